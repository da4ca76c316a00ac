/- Parts. -/
import Derived.Test.YtpnddokajmjpbaaDoorM01
import Derived.Laws.Pointers
import Derived.Laws.StructEq
import Derived.Laws.Strings2
import Derived.Laws.IdiomStrings
namespace Go.Proofs.YtpnddokajmjpbaaDoor.Hx
inductive sO (Δ:Env):List (V×V×Nat)->List MapEntry->Prop
 |nil:sO Δ [] []
 | cons (k v:V) (n:Nat) (e:MapEntry) (b:List (V×V×Nat)) (a:List MapEntry) (c:fI Δ k e.key) (hv:fI Δ v e.val) (hb:e.born=n)
   (hs:sO Δ b a):sO Δ ((k,v,n)::b) (e::a)
theorem sO.mono {Δ d:Env} (b:Δ.le d) {c:List (V×V×Nat)} {a:List MapEntry} (h:sO Δ c a):sO d c a:=by
 induction h with
 |nil=>exact .nil
 |cons k v n e c a f hv hb _ g=>exact .cons k v n e c a (f.mono b) (hv.mono b) hb g
def Ef (Δ:Env) (d:D) (cs:List V) (ob:Option Obj):Prop:=
 ∃c e fr,ob=some (.cells c e fr)/\c.size=d.Pg/\(d.ro=false->fr.1=fr.2\/d.Pg<=fr.1)/\d.base+cs.length<=d.Pg/\
  ∀(i:Nat) (v:V),cs[i]? =some v->∃x,c[d.base+i]? =some x/\fI Δ v x
def O7 (Δ:Env) (d:D) (o:O) (ob:Option Obj):Prop:=match o with
 | .cells _ sz live ro cs=>d.kind=0/\d.sz=sz/\d.n=cs.length/\d.ro=ro/\(live=true->Ef Δ d cs ob)
 | .map g a=>d.kind=1/\d.ro=false/\d.base=0/\∃c,ob=some (.map c a)/\sO Δ g c.toList
 | .iter m since seen last=>d.kind=2/\d.ro=false/\d.base=0/\∃e,ob=some (.mapIter e since seen.toArray last)/\
   (match m with
    |none=>e=none
    |some l=>∃f,Δ l=some f/\e=some f.b)
def O.live:O->Bool
 | .cells _ _ live _ _=>live
 |_=>true
def AQ (Δ:Env)(w:World):Prop:=∀g c,(g,c)∈Z1->(∃e fr,w.heap[g]? =some (.cells c e fr))/\∀l d,Δ l=some d->d.ro=false->d.b≠g
structure WR (Δ:Env) (h:Hp) (w:World):Prop where
 fresh:∀l d,Δ l=some d->l<h.next
 mS:∀l d,Δ l=some d->d.b<w.heap.size
 obj:∀l d,Δ l=some d->∃o,h.get l=some o/\O7 Δ d o w.heap[d.b]?
 apart:∀l a d c o e,Δ l=some d->Δ a=some c->l≠a->h.get l=some o->h.get a=some e->o.live=true->e.live=true->
  (d.ro=false\/c.ro=false)->d.b≠c.b
 Fo:∀g o,g<P0.globals.size->h.get g=some o->∃d,Δ g=some d/\d.b=g/\d.base=0
 xu:P0.globals.size<=h.next
 Rg:AQ Δ w
inductive Gv (Δ:Env):List (Nat×List V)->List Deferred->Prop
 |nil:Gv Δ [] []
 | cons (g:Nat) (args:List V) (cap gq:Array Value) (l:List (Nat×List V)) (a:List Deferred) (b:gh Δ args (gq++cap).toList) (c:Gv Δ l a) :
   Gv Δ ((g,args)::l) ({target:= .fn (.func g) cap,args:=gq}::a)
theorem Gv.mono {Δ c:Env} (b:Δ.le c) {l:List (Nat×List V)} {a:List Deferred} (h:Gv Δ l a):Gv c l a:=by
 induction h with
 |nil=>exact .nil
 |cons g args cap gq l a d _ e=>exact .cons g args cap gq l a (d.mono b) e
structure TR (Δ:Env) (n:Nat) (t:Tm) (a:Act):Prop where
 size:a.tmps.size=n
 rel:∀i,fI Δ (jl t i) (a.tmps.getD i undef)
 ds:Gv Δ t.ds a.defers
theorem Vc{fr:Nat×Nat}{n:Nat}(h:fr.1=fr.2\/n<=fr.1):∀i,i<n->¬(fr.1<=i/\i<fr.2):=λi hi hc=>by omega
theorem Ef.mono {Δ b:Env} (a:Δ.le b) {d:D} {cs:List V} {ob:Option Obj} (h:Ef Δ d cs ob):Ef b d cs ob:=by
 obtain⟨c,e,fr,f,g,j,k,l⟩:=h;exact⟨c,e,fr,f,g,j,k,λi v hi=>let⟨x,hx,hr⟩:=l i v hi;⟨x,hx,hr.mono a⟩⟩
theorem O7.mono {Δ n:Env} (a:Δ.le n) {d:D} {o:O} {ob:Option Obj} (h:O7 Δ d o ob):O7 n d o ob:=by
 cases o with
 | cells e sz live ro cs=>
   obtain⟨c,f,g,i,b⟩:=h
   exact⟨c,f,g,i,λp=>(b p).mono a⟩
 | map u j=>
   obtain⟨c,f,g,k,i,b⟩:=h
   exact⟨c,f,g,k,i,b.mono a⟩
 | iter m since seen last=>
   obtain⟨c,f,g,q,i,b⟩:=h;refine⟨c,f,g,q,i,?_⟩
   cases m with
   |none=>exact b
   |some l=>obtain⟨r,s,t⟩:=b;exact⟨r,a _ _ s,t⟩
theorem TR.mono{Δ c:Env}(b:Δ.le c){n:Nat}{t:Tm}{a:Act}(h:TR Δ n t a):TR c n t a:=⟨h.size,λi=>(h.rel i).mono b,h.ds.mono b⟩
theorem fG{t:Nat}{d:TypeDesc}{w:World}(h:P0.underlying t=some d):(underlying t).run P0 w = .ok d w:=by simp[underlying,h]
theorem Bw {t n:Nat} (h:wU t=some n):∃i,P0.info? t=some i/\i.size=n:=by
 unfold wU at h;rw[fj]at h;obtain⟨i,hi,h⟩:=h;exact⟨i,hi,by simpa using h⟩
theorem uJ {t n:Nat} {w:World} (h:wU t=some n):(sizeOf t).run P0 w = .ok n w:=by
 obtain⟨i,hi,rfl⟩:=Bw h;simp[sizeOf,typeInfo,hi]
theorem DQ {t:Nat} {b:Bool} {w:World} (h:JD t=some b):(isAgg t).run P0 w = .ok b w:=by
 unfold JD at h;split at h
 ·rename_i a;cases h;simp[isAgg,fG a]
 ·rename_i a;cases h;simp[isAgg,fG a]
 ·rename_i d c e a;cases h;simp only[isAgg,pB,fG a,oD];rfl
 ·cases h
theorem ym {t:Nat} {z:V} (h:zeroV t=some z):∃a,(∀w,(zeroValue t).run P0 w = .ok a w)/\(∀Δ,fI Δ z a)/\∃i,P0.info? t=some i/\i.zero=some a:=by
 unfold zeroV at h;simp only[fj]at h;obtain⟨i,hi,a,b,hv⟩:=h;exact⟨a,λw=>by simp[zeroValue,typeInfo,hi,b],λΔ=>Ec Δ 8 a z hv,i,hi,b⟩
theorem nY (b o n:Nat):(⟨b,o,none⟩:Addr).add n=⟨b,o+n,none⟩:=by
 unfold Addr.add;split
 ·rename_i h;subst h;rfl
 ·rfl
section
variable{Δ:Env}{h:Hp}{w:World}{n:Nat}{t:Tm}{a:Act}
theorem CZ (b:TR Δ n t a) {x:Operand} {v:V} (hv:(K5 x).f t=some v):fI Δ v (a.eval x):=by
 cases x with
 |tmp i=>simp only[K5]at hv;cases hv;exact b.rel i
 | const c=>
   simp only[K5]at hv;split at hv
   ·rename_i y d;cases hv;exact Ec Δ 8 c _ d
   ·cases hv
 |global g=>simp[K5]at hv
 |func f=>simp only[K5]at hv;cases hv;exact .func f [] [] #[] #[] .nil .nil
theorem j6 (j:WR Δ h w) (b:TR Δ n t a) {x:Operand} {v:V} (hv:(rB x).f t h=some v):fI Δ v (a.eval x):=by
 cases x with
 | global g=>
   unfold rB at hv
   cases IH:Nat.blt g P0.globals.size with
   | true=>
     simp only[IH,fj]at hv;obtain⟨o,k,hv⟩:=hv;cases hv;have l:g<P0.globals.size:=by rw[<-LS];exact IH
     obtain⟨d,m,hb,e⟩:=j.Fo g o l k;have:=fI.ptr (Δ:=Δ) g 0 d m;rw[hb,e]at this
     exact this
   |false=>simp[IH]at hv
 |tmp i=>exact CZ b hv
 |const c=>exact CZ b hv
 |func f=>exact CZ b hv
theorem zT (b:TR Δ n t a):∀{l:List Operand} {vs:List V},GQ t l=some vs->gh Δ vs (l.map a.eval)
 |[],vs,hv=>by simp[GQ]at hv;subst hv;exact .nil
 | x::l,vs,hv=>by
   simp only[GQ,fj]at hv;obtain⟨v,c,d,e,f⟩:=hv;cases f;exact .cons _ _ _ _ (CZ b c) (zT b e)
inductive Ug (Δ:Env):List (Nat×V)->List (Nat×Value)->Prop
 |nil:Ug Δ [] []
 |cons (i:Nat) (v:V) (a:Value) (l:List (Nat×V)) (b:List (Nat×Value)) (hv:fI Δ v a) (hs:Ug Δ l b):Ug Δ ((i,v)::l) ((i,a)::b)
theorem BY (b:TR Δ n t a):∀{l:List (Nat×Operand)} {vs:List (Nat×V)},si t l=some vs->Ug Δ vs (l.map λx=>(x.1,a.eval x.2))
 |[],vs,hv=>by simp[si]at hv;subst hv;exact .nil
 | x::l,vs,hv=>by
   simp only[si,fj]at hv;obtain⟨v,c,d,e,f⟩:=hv;cases f;exact .cons _ _ _ _ _ (CZ b c) (BY b e)
theorem Rq (g:WR Δ h w) {l:Nat} {d:D} (j:Δ l=some d) {e sz:Nat} {ro:Bool} {cs:List V} (k:h.get l=some (.cells e sz true ro cs))
  {i:Nat} {v:V} (hi:cs[i]? =some v):∃x,w.cell? ⟨d.b,d.base+i,none⟩=some x/\fI Δ v x:=by
 obtain⟨o,f,a⟩:=g.obj l d j;rw[k]at f;cases f;obtain⟨_,_,_,_,hc⟩:=a;obtain⟨c,p,fr,m,_,_,_,n⟩:=hc rfl;obtain⟨x,hx,a⟩:=n i v hi;exact⟨x,by simp[World.cell?,m,hx],a⟩
theorem Gj (s:WR Δ h w) {l:Nat} {d:D} (t:Δ l=some d) {off m:Nat} {cs:List V} (hv:Ey h l off m=some cs) :
  ∃a,(loadCells ⟨d.b,d.base+off,none⟩ m).run P0 w = .ok a w/\gh Δ cs a.toList:=by
 unfold Ey at hv;rw[j8]at hv;obtain⟨e,sz,live,ro,all,u,hv⟩:=hv;rw[gM]at hv;obtain⟨rfl,hv⟩:=hv;obtain⟨hlen,c⟩:=sub_eq hv;have f:∀j,j<m->∃x v,w.cell? ⟨d.b,d.base+off+j,none⟩=some x/\cs[j]? =some v/\fI Δ v x:=λj n=>by
  have o:j<cs.length:=by omega
  have q:cs[j]? =some cs[j]:=gQ o;have r:=c j n;rw[q]at r;obtain⟨x,hx,p⟩:=Rq s t u r.symm;exact⟨x,_,by rw[Xy];exact hx,q,p⟩
 refine⟨_,run_loadCells w ⟨d.b,d.base+off,none⟩ m (λj=>(w.cell? ⟨d.b,d.base+off+j,none⟩).getD undef) (λj n=>?_),?_⟩
 ·obtain⟨x,v,hx,_,_⟩:=f j n;rw[nY,hx];rfl
 ·refine gh.MJ (by simp[hlen]) λi v hi=>?_;have g:i<m:=by
   have:=(iB.1 hi).1;omega
  obtain⟨x,y,hx,k,p⟩:=f i g;rw[hi]at k;cases k;exact⟨x,by simp[g,hx],p⟩
theorem UQ (a:WR Δ h w) {l:Nat} {d:D} (c:Δ l=some d) {off:Nat} {v:V} (hv:ZR h l off=some v) :
  ∃x,w.cell? ⟨d.b,d.base+off,none⟩=some x/\fI Δ v x:=by
 unfold ZR at hv;rw[j8]at hv;obtain⟨e,sz,live,ro,all,f,hv⟩:=hv;rw[gM]at hv;obtain⟨rfl,hv⟩:=hv;exact Rq a c f (Jx hv)
theorem KD (j:WR Δ h w) {ty:Nat} {p:PF} {xv:Value} (k:∀v,p.f t h=some v->fI Δ v xv) {v:V} (hv:(IA ty p).f t h=some v) :
  ∃x,(Instr.loadAt ty xv).run P0 w = .ok x w/\fI Δ v x:=by
 unfold IA at hv;split at hv
 ·rename_i b;split at hv
  ·rename_i m n;simp only[fj,uc]at hv;obtain⟨av,c,l,off,rfl,cs,e,o⟩:=hv;cases o
   cases k _ c with
   | ptr _ _ d g=>
     obtain⟨i,q,a⟩:=Gj j g e;exact⟨.agg i,by simp[Instr.loadAt,Instr.sureAddr,loadVar,DQ b,uJ n,q],.agg _ _ a⟩
  ·cases hv
 ·rename_i b;simp only[fj,uc]at hv;obtain⟨av,c,l,off,rfl,e⟩:=hv
  cases k _ c with
  | ptr _ _ d g=>
    obtain⟨x,hx,a⟩:=UQ j g e;exact⟨x,by simp[Instr.loadAt,Instr.sureAddr,loadVar,DQ b,hx],a⟩
 ·cases hv
theorem IL:∀(fs:List Field) (pl:List (Nat×Nat)),placesOf fs=some pl->fs.mapM (λf=>(P0.info? f.type).map λi=>(f.offset,i.size))=some pl
 |[],pl,h=>by simp[placesOf]at h;subst h;simp
 | f::fs,pl,h=>by
   simp only[placesOf,fj]at h;obtain⟨m,a,l,b,c⟩:=h;cases c;obtain⟨i,hi,rfl⟩:=Bw a;simp[List.mapM_cons,hi,IL fs l b]
theorem LJ:∀(xs:List Value) (k off:Nat) (c:Array Value),off+k+xs.length<=c.size->
  ∀i,((xs.zipIdx k).foldl (λcs (p:Value×Nat)=>cs.setIfInBounds (off+p.2) p.1) c)[i]? =if off+k<=i/\i<off+k+xs.length then xs[i-(off+k)]? else c[i]?
 | [],k,off,c,_,i=>by
   rw[if_neg (by simp only[VR];omega)]
   rfl
 | x ::xs,k,off,c,hle,i=>by
   simp only[List.zipIdx_cons,List.foldl_cons];simp only[CM]at hle;rw[LJ xs (k+1) off _ (by simp;omega)];by_cases b:off+(k+1)<=i/\i<off+(k+1)+xs.length
   ·rw[if_pos b,if_pos (by simp only[CM];omega)]
    have:i-(off+k)=(i-(off+(k+1)))+1:=by omega
    rw[this,O8]
   ·rw[if_neg b]
    by_cases d:i=off+k
    ·subst d
     rw[if_pos (by simp only[CM];omega)];have a:off+k<c.size:=by omega
     simp[a]
    ·rw[if_neg (by simp only[CM];omega)]
     rw[wBm (λe=>d e.symm)]
theorem Jh {place:Nat->Option (Nat×Nat)}:∀{ps:List (Nat×V)} {VW:List (Nat×Value)} {cells cs:List V} {a:Array Value},Ug Δ ps VW->gh Δ cells a.toList->
  Bn place cells ps=some cs->∃mR,Instr.fill place a VW=some mR/\gh Δ cs mR.toList
 |_,_,cells,cs,a,.nil,hc,hf=>by simp[Bn]at hf;subst hf;exact⟨a,rfl,hc⟩
 | _,_,cells,cs,a,.cons i v v' l l' hv hs,hc,hf=>by
   simp only[Bn,fj,gM]at hf;obtain⟨⟨off,size⟩,w,z,o,A,B⟩:=hf;obtain⟨I,C,k⟩:=HC A;have d:=hv.cells;have q:v'.cells.size=size:=by
     have:=d.length;rw[tU z]at this;simpa using this.symm
   have r:=hc.length;simp only[Rp]at r;have D:v.cells.length=v'.cells.size:=by simpa using d.length
   have s:¬(v'.cells.size≠size\/off+v'.cells.size>a.size):=by
     rintro(h|h)
     ·exact h q
     ·omega
   have m:gh Δ o (v'.cells.zipIdx.foldl (λcs (c,j)=>cs.setIfInBounds (off+j) c) a).toList:=by
     have b:=LJ v'.cells.toList 0 off a (by simp;omega);have e:(v'.cells.zipIdx.foldl (λcs (c,j)=>cs.setIfInBounds (off+j) c) a)=((v'.cells.toList.zipIdx 0).foldl (λcs (p:Value×Nat)=>cs.setIfInBounds (off+p.2) p.1) a):=by
       rw[<-Array.foldl_toList];simp
     rw[e];generalize hF:((v'.cells.toList.zipIdx 0).foldl (λcs (p:Value×Nat)=>cs.setIfInBounds (off+p.2) p.1) a)=F at b;have E:F.size=a.size:=by
      apply Nat.le_antisymm
      ·rcases Nq a.size F.size with f|g
       ·have:=b a.size
        rw[if_neg (by simp;omega)]at this;simp[f]at this
       ·exact g
      ·rcases Nq F.size a.size with f|g
       ·have:=b F.size
        by_cases hin:off+0<=F.size/\F.size<off+0+v'.cells.toList.length
        ·rw[if_pos hin]at this
         have G:F.size-(off+0)<v'.cells.toList.length:=by omega
         rw[gQ G]at this;simp at this
        ·rw[if_neg hin]at this
         simp[f]at this
       ·exact g
     refine gh.MJ (by simp only[Rp];omega) λj x hx=>?_;rw[k j]at hx;have n:=b j;simp only[VP,Rp]at n;rw[QM,n];by_cases hin:off<=j/\j<off+v.cells.length
     ·rw[if_pos hin]at hx
      rw[if_pos (by omega)];exact d.get _ _ hx
     ·rw[if_neg hin]at hx
      rw[if_neg (by omega)];obtain⟨y,H,t⟩:=hc.get _ _ hx;exact⟨y,by simpa using H,t⟩
   obtain⟨mR,u,t⟩:=Jh hs m B;refine⟨mR,?_,t⟩;simp only[Instr.fill,w];rw[if_neg (by simpa using s)];exact u
theorem Sp (r:TR Δ n t a) {ty:Nat} {parts:List (Nat×Operand)} {v:V} (hv:(FL ty parts).f t h=some v) :
  ∃x,(Instr.build ty (parts.map λx=>(x.1,a.eval x.2)).toArray).run P0 w = .ok x w/\fI Δ v x:=by
 unfold FL at hv;split at hv
 ·rename_i z u;obtain⟨A,_,g,i,hi,b⟩:=ym u;have c:=(g Δ).cells;split at hv
  ·rename_i d j;split at hv
   ·rename_i e y;simp only[fj]at hv;obtain⟨ps,k,cs,l,m⟩:=hv;cases m;obtain⟨mR,o,p⟩:=Jh (BY r k) c l;refine⟨.agg mR,?_,.agg _ _ p⟩;refine run_build w ty _ mR ?_;unfold Program.built;simp only[hi,j,b,IL _ _ y];simpa using o
   ·cases hv
  ·rename_i len s j;split at hv
   ·rename_i size hs;obtain⟨B,q,rfl⟩:=Bw hs;simp only[fj]at hv;obtain⟨ps,k,cs,l,m⟩:=hv;cases m;obtain⟨mR,o,p⟩:=Jh (BY r k) c l;refine⟨.agg mR,?_,.agg _ _ p⟩;refine run_build w ty _ mR ?_;unfold Program.built;simp only[hi,j,b,q];simpa using o
   ·cases hv
  ·cases hv
 ·cases hv
end
theorem yq (k:IntKind) (n:Int):mO k n=k.wrap n:=by
 unfold mO
 cases n with
 |negSucc m=>rfl
 | ofNat m=>
   simp only;split
   ·rename_i hb
    rw[LS]at hb;have e:(Int.ofNat m)=(m:Int):=rfl;rw[e];cases k <;> simp[IntKind.wrap,IntKind.bits,IntKind.signed]at hb⊢ <;> omega
   ·rfl
section
variable{Δ:Env}{h:Hp}{w:World}{n:Nat}{t:Tm}{a:Act}
theorem lQ{s:Sem Value}{x:Value}{w w':World}(h:s.run P0 w = .ok x w'):(do pure (Next.value (<-s)):Sem Next).run P0 w = .ok (.value x) w':=by simp[h]
theorem HH{k k':IntKind}(h:Np k k' = true):k=k':=by cases k <;> cases k' <;> first|rfl|cases h
theorem WZ {op:BinOp} {k:IntKind} {x y:Int} {v:V} (ty:Nat) (w:World) (hs:QR op=false) (hv:hint op k x y=some v) :
  ∃r,(binOp op ty (.int k x) (.int k y)).run P0 w = .ok r w/\∀Δ,fI Δ v r:=by
 cases op with
 |shl=>cases hs
 |shr=>cases hs
 |add=>simp only[hint]at hv;cases hv;rw[yq];exact⟨_,by simp[binOp,Op.intArith],λΔ=> .int _ _⟩
 |sub=>simp only[hint]at hv;cases hv;rw[yq];exact⟨_,by simp[binOp,Op.intArith],λΔ=> .int _ _⟩
 |mul=>simp only[hint]at hv;cases hv;rw[yq];exact⟨_,by simp[binOp,Op.intArith],λΔ=> .int _ _⟩
 | quo=>
   have b:y≠0:=by rintro rfl;simp[hint]at hv
   have a:some (V.int k (mO k (x.tdiv y)))=some v:=by
     rw[<-hv];unfold hint;simp only;split
     ·exact absurd rfl b
     ·rfl
   cases a;rw[yq];exact⟨_,by simp[binOp,Op.intDiv,b],λΔ=> .int _ _⟩
 | rem=>
   have b:y≠0:=by rintro rfl;simp[hint]at hv
   have a:some (V.int k (x.tmod y))=some v:=by
     rw[<-hv];unfold hint;simp only;split
     ·exact absurd rfl b
     ·rfl
   cases a;exact⟨_,by simp[binOp,Op.intDiv,b],λΔ=> .int _ _⟩
 |and=>simp only[hint]at hv;cases hv;exact⟨_,by simp[binOp,Op.intBits],λΔ=> .int _ _⟩
 |or=>simp only[hint]at hv;cases hv;exact⟨_,by simp[binOp,Op.intBits],λΔ=> .int _ _⟩
 |xor=>simp only[hint]at hv;cases hv;exact⟨_,by simp[binOp,Op.intBits],λΔ=> .int _ _⟩
 |andNot=>simp only[hint]at hv;cases hv;exact⟨_,by simp[binOp,Op.intBits],λΔ=> .int _ _⟩
 |eql=>simp only[hint]at hv;cases hv;exact⟨_,by simp[binOp,Op.intCmp],λΔ=> .bool _⟩
 |neq=>simp only[hint]at hv;cases hv;exact⟨_,by simp[binOp,Op.intCmp],λΔ=> .bool _⟩
 |lss=>simp only[hint]at hv;cases hv;exact⟨_,by simp[binOp,Op.intCmp],λΔ=> .bool _⟩
 |leq=>simp only[hint]at hv;cases hv;exact⟨_,by simp[binOp,Op.intCmp],λΔ=> .bool _⟩
 |gtr=>simp only[hint]at hv;cases hv;exact⟨_,by simp[binOp,Op.intCmp],λΔ=> .bool _⟩
 |geq=>simp only[hint]at hv;cases hv;exact⟨_,by simp[binOp,Op.intCmp],λΔ=> .bool _⟩
theorem So {op:BinOp} {k k':IntKind} {x y:Int} {v:V} (ty:Nat) (w:World) (hv:QJ op k x y=some v) :
  ∃r,(binOp op ty (.int k x) (.int k' y)).run P0 w = .ok r w/\∀Δ,fI Δ v r:=by
 unfold QJ at hv;split at hv
 ·cases hv
 ·rename_i m;have a:¬((Int.ofNat m)<0):=by simp
  split at hv
  ·cases hv;exact⟨_,by simp only[binOp,Op.shift];rw[if_neg a];rfl,λΔ=> .int _ _⟩
  ·cases hv;exact⟨_,by simp only[binOp,Op.shift];rw[if_neg a];rfl,λΔ=> .int _ _⟩
  ·cases hv
theorem Xp {op:BinOp} {x y:ByteArray} {v:V} (ty:Nat) (w:World) (hv:YA op x.data.toList y.data.toList=some v) :
  ∃r,(binOp op ty (.string x) (.string y)).run P0 w = .ok r w/\∀Δ,fI Δ v r:=by
 have hb:(binOp op ty (.string x) (.string y))=Op.stringOp op x y:=by cases op <;> rfl
 rw[hb];have d:x.toList=x.data.toList:=ByteArray.toList_eq x;have f:y.toList=y.data.toList:=ByteArray.toList_eq y;cases op <;> simp only[YA]at hv <;> try (cases hv;done)
 case add=>
  split at hv
  ·rename_i b;cases hv;have a:=G9 b;have c:¬(((x.size+y.size:Nat):Int)>IntKind.i64.max):=by
    have g:x.data.toList.length=x.size:=rfl;have h:y.data.toList.length=y.size:=rfl;rw[g,h]at a;simp only[IntKind.max,IntKind.signed,IntKind.bits,if_true];omega
   have e:x.data.toList++y.data.toList=(x++y).data.toList:=by simp
   rw[e];exact⟨_,by simp only[Op.stringOp];rw[if_neg c];rfl,λΔ=> .str _⟩
  ·cases hv
 all_goals
  cases hv;refine⟨_,by simp only[Op.stringOp,d,f];rfl,λΔ=> .bool _⟩
theorem FN {op:BinOp} {ty:Nat} {X Y:Operand} {x y:Value} (w:World) (a:x≠ .nilIface) (b:∀c,x≠ .agg c) :
  (eqGuard op ty X Y x y).run P0 w = .ok () w:=by
 cases op <;> unfold eqGuard <;> dsimp only <;> simp only[X6,U0,Li,if_true,if_false] <;> first
  |rfl
  |(split
    ·exact absurd rfl a
    ·exact absurd rfl (b _)
    ·rfl)
theorem SV {d:TypeDesc} {ty:Nat} {x y:V} {xv a:Value} {b:Bool} (w:World) (c:Nat) (e:P0.underlying ty=some d) (hx:fI Δ x xv) (f:fI Δ y a)
  (hv:UP d x y=some b):(Op.equalIn (c+1) ty xv a).run P0 w = .ok b w:=by
 unfold UP at hv;split at hv <;> first|(cases hv;done)|skip
 all_goals
  first
   |cases hv
   |(rw[gM]at hv;obtain⟨_,hv⟩:=hv;cases hv)
  cases hx;cases f;simp only[Op.equalIn,pB,fG e,oD];rfl
theorem RP {a:Array (String×TypeId)} {ty:Nat} (w:World) (b:Nat) (c:P0.underlying ty=some (.interface a)) (d:a.isEmpty=true):(Op.eqGuardIn (b+1) ty .nilIface .nilIface).run P0 w = .ok false w:=by
 simp only[Op.eqGuardIn,pB,fG c,oD,d];rfl
theorem WC {d:TypeDesc} {ty:Nat} {x y:V} {xv a:Value} {b:Bool} (w:World) (h:P0.underlying ty=some d) (hx:fI Δ x xv) (i:fI Δ y a)
  (hv:UP d x y=some b):(Op.equal ty xv a).run P0 w = .ok b w/\(∀op X Y,(eqGuard op ty X Y xv a).run P0 w = .ok () w)/\
   (binOp .eql ty xv a)=(do pure (.bool (<-Op.equal ty xv a)))/\(binOp .neq ty xv a)=(do pure (.bool (!(<-Op.equal ty xv a)))):=by
 refine⟨SV w 9999 h hx i hv,?_⟩;unfold UP at hv;split at hv <;> first|(cases hv;done)|skip
 all_goals
  cases hx;cases i
 all_goals refine⟨?_,rfl,rfl⟩
 all_goals intro op X Y
 any_goals (refine FN w ?_ ?_ <;> first|(intro e;cases e;done)|(intro c e;cases e;done))
 ·rename_i k;rw[gM]at hv;have j:=hv.1;have g:=RP w 9999 h j
  cases op <;> unfold eqGuard <;> dsimp only <;> simp only[X6,U0,Li,if_true,if_false] <;> first
   |rfl
   |(split
     ·rfl
     ·split
      ·rfl
      ·have f:Sem.run P0 (Op.eqGuardIn Op.maxDepth ty .nilIface .nilIface) w = .ok false w:=g
       rw[if_neg (by decide)];simp only[pB,f,oD];rfl)
 ·cases op <;> rfl
theorem Zn {ty:Nat} {x y:V} {xv d:Value} {b:Bool} (w:World) (f:Nat) (hx:fI Δ x xv) (c:fI Δ y d) (hv:eq1 (P0.underlying ty) x y=some b) :
  (Op.equalIn (f+1) ty xv d).run P0 w = .ok b w/\JD ty=some false:=by
 unfold eq1 at hv;split at hv
 ·rename_i a;cases hx;cases c;cases hv;refine⟨?_,by unfold JD;rw[a]⟩;simp only[Op.equalIn,pB,fG a,oD];rfl
 ·rename_i a;cases hx;cases c;rw[gM]at hv;obtain⟨g,hv⟩:=hv;obtain rfl:=HH g;cases hv;refine⟨?_,by unfold JD;rw[a]⟩;simp only[Op.equalIn,pB,fG a,oD,if_true];rfl
 ·rename_i a;cases hx with|str xs=>cases c with|str ys=>
  cases hv;refine⟨?_,by unfold JD;rw[a]⟩;simp only[Op.equalIn,pB,fG a,oD];have e:(xs.data.toList == ys.data.toList)=(xs == ys):=by
   rw[show(xs == ys)=(xs.data == ys.data) from rfl,U6,CN,CN];exact⟨λh=>Array.ext' h,λh=>by rw[h]⟩
  rw[e];rfl
 ·cases hv
theorem KO {xs ys:List V} {a Tx:Array Value} (w:World) (j:Nat) (hx:gh Δ xs a.toList) (p:gh Δ ys Tx.toList):∀{fs:List Field} {b:Bool},Gf fs xs ys=some b->
  ((do
    for f in fs do
      if f.name≠ "_" then
        if !(<-Op.equalIn (j+1) f.type (<-part f.type a f.offset) (<-part f.type Tx f.offset)) then return false
    pure true:Sem Bool)).run P0 w = .ok b w
 |[],b,h=>by cases h;rfl
 | f ::fs,b,h=>by
   simp only[Gf,gM,fj,X9,Tw]at h;obtain⟨q,x,v,y,z,c,A,r⟩:=h;obtain⟨xv,k,l⟩:=hx.get _ _ (Jx v);obtain⟨s,m,n⟩:=p.get _ _ (Jx z);obtain⟨t,u⟩:=Zn w j l n A;have d:(part f.type a f.offset).run P0 w = .ok xv w:=by
     have e:a[f.offset]? =some xv:=by simpa using k
     simp only[part,pB,DQ u,oD,Li,if_false];simp[e]
   have g:(part f.type Tx f.offset).run P0 w = .ok s w:=by
     have i:Tx[f.offset]? =some s:=by simpa using m
     simp only[part,pB,DQ u,oD,Li,if_false];simp[i]
   have B:=λ{b}=>KO w j hx p (fs:=fs) (b:=b)
   cases c with
   | false=>
     cases r
     simp only[List.forIn_cons,pB,ne_eq,q,not_false_iff,if_true,d,g,t,oD,U0,DW]
   | true=>
     have o:Gf fs xs ys=some b:=r;have:=B o;simp only[List.forIn_cons,pB,ne_eq,q,not_false_iff,if_true,d,g,t,oD,X6,Li,if_false,DW]at this⊢;exact this
theorem Zo {ty:Nat} {xs ys:List V} {xv a:Value} {b:Bool} (w:World) (hx:fI Δ (.agg xs) xv) (c:fI Δ (.agg ys) a) (hv:Um ty xs ys=some b) :
  (Op.equal ty xv a).run P0 w = .ok b w/\(∀op X Y,(eqGuard op ty X Y xv a).run P0 w = .ok () w)/\
   (binOp .eql ty xv a)=(do pure (.bool (<-Op.equal ty xv a)))/\(binOp .neq ty xv a)=(do pure (.bool (!(<-Op.equal ty xv a)))):=by
 cases hx with|agg _ xs' hx=>cases c with|agg _ Tx c=>
 unfold Um at hv;split at hv
 ·rename_i fs e;simp only[gM,X9]at hv;obtain⟨hs,f,hv⟩:=hv;refine⟨?_,λop X Y=>?_,rfl,rfl⟩
  ·have d:=KO w 9998 hx c hv;show(Op.equalIn (9999+1) ty (.agg xs') (.agg Tx)).run P0 w=_;rw[Op.equalIn];simp only[pB,fG e,oD,run_program,hs,Li,if_false,DW,<-Array.forIn_toList]at d⊢;exact d
  ·cases op <;> unfold eqGuard <;> dsimp only <;> simp only[X6,U0,Li,if_true,if_false] <;> first
    |rfl
    |(simp only[pB,run_program,oD,f,U0,if_true];rfl)
 ·cases hv
theorem Wb {op:BinOp} {ty:Nat} {X Y:Operand} {x y v:V} {xv e:Value} (w:World) (hx:fI Δ x xv) (o:fI Δ y e) (hv:er op ty x y=some v) :
  ∃r,(do eqGuard op ty X Y xv e;binOp op ty xv e:Sem Value).run P0 w = .ok r w/\fI Δ v r:=by
 unfold er at hv;split at hv
 ·rename_i k p k' q;cases hx;cases o;have f:=FN (op:=op) (ty:=ty) (X:=X) (Y:=Y) (y:= .int k' q) w (x:= .int k p) (by simp) (by simp);split at hv
  ·obtain⟨r,j,a⟩:=So (k':=k') ty w hv;exact⟨r,by simp only[pB,f,oD,j],a Δ⟩
  ·rename_i hs;rw[gM]at hv;obtain⟨s,hv⟩:=hv;obtain rfl:=HH s;obtain⟨r,j,a⟩:=WZ ty w hs hv;exact⟨r,by simp only[pB,f,oD,j],a Δ⟩
 ·cases hx with|str xs=>cases o with|str ys=>
  have f:=FN (op:=op) (ty:=ty) (X:=X) (Y:=Y) (y:= .string ys) w (x:= .string xs) (by simp) (by simp);obtain⟨r,j,a⟩:=Xp ty w hv;exact⟨r,by simp only[pB,f,oD,j],a Δ⟩
 ·have l:∀g,Sc ty g x y=some v->∃b,(Op.equal ty xv e).run P0 w = .ok b w/\(∀op X Y,(eqGuard op ty X Y xv e).run P0 w = .ok () w)/\
    (binOp .eql ty xv e)=(do pure (.bool (<-Op.equal ty xv e)))/\(binOp .neq ty xv e)=(do pure (.bool (!(<-Op.equal ty xv e))))/\v = .bool (Bool.rec (motive:=λ_=>Bool) b (!b) g):=by
   clear hv;intro g c;unfold Sc YV at c;rw[fj]at c;obtain⟨b,hb,c⟩:=c;split at hb
   ·obtain⟨h,i,m,n⟩:=Zo w hx o hb;cases c;exact⟨b,h,i,m,n,rfl⟩
   unfold Vm at hb;split at hb
   ·rename_i d t;obtain⟨h,i,m,n⟩:=WC w t hx o hb;cases c;exact⟨b,h,i,m,n,rfl⟩
   ·cases hb
  split at hv
  ·obtain⟨b,h,i,m,_,rfl⟩:=l false hv;have f:=i .eql X Y;exact⟨.bool b,by rw[m];simp only[pB,f,oD,h,DW],.bool b⟩
  ·obtain⟨b,h,i,_,n,rfl⟩:=l true hv;have f:=i .neq X Y;exact⟨.bool (!b),by rw[n];simp only[pB,f,oD,h,DW],.bool _⟩
  ·cases hv
theorem YS {op:UnOp} {x v:V} {xv:Value} (w:World) (hx:fI Δ x xv) (hv:sr op x=some v):∃r,(Op.unary op xv).run P0 w = .ok r w/\fI Δ v r:=by
 unfold sr at hv;split at hv
 ·cases hv;cases hx;rw[yq];exact⟨_,rfl,.int _ _⟩
 ·cases hv;cases hx;exact⟨_,rfl,.bool _⟩
 ·simp only[hint]at hv;cases hv;cases hx;exact⟨_,rfl,.int _ _⟩
 ·cases hv
theorem Vh {src dst:Nat} {p:PF} {xv:Value} {v:V} (w:World) (i:¬∃e,P0.underlying src=some (.slice e)/\P0.underlying dst=some .string) (g:∀v,p.f t h=some v->fI Δ v xv) (hv:(Io src dst p).f t h=some v) :
  ∃r,(convert src dst xv).run P0 w = .ok r w/\fI Δ v r:=by
 unfold Io at hv;split at hv
 ·rename_i k' k hs b;rw[fj]at hv;obtain⟨x,c,a⟩:=hv;have d:=g _ c;split at a
  ·cases a;cases d;rw[yq];exact⟨_,by simp[convert,fG hs,fG b,Conv.intToInt],.int _ _⟩
  ·cases a
 ·rename_i hs b;rw[fj]at hv;obtain⟨x,c,a⟩:=hv;have d:=g _ c;split at a
  ·cases a;cases d;exact⟨_,by simp[convert,fG hs,fG b],.str _⟩
  ·cases a
 ·rename_i e hs b;exact absurd ⟨e,hs,b⟩ i
 ·cases hv
theorem JX {ty:Nat} {cs:List V} {mR:Array Value} {off:Nat} {v:V} (w:World) (hc:gh Δ cs mR.toList) (hv:NC ty cs off=some v) :
  ∃r,(part ty mR off).run P0 w = .ok r w/\fI Δ v r:=by
 unfold NC at hv
 cases ha:JD ty with
 |none=>simp[ha]at hv
 |some b=>cases b with
 | true =>
   simp only[ha]at hv
   cases hm:wU ty with
   |none=>simp[hm]at hv
   | some m=>
     simp only[hm,fj]at hv;obtain⟨l,g,h⟩:=hv;cases h;obtain⟨j,f⟩:=sub_eq g;refine⟨.agg (mR.extract off (off+m)),by simp[part,DQ ha,uJ hm],.agg _ _ (gh.MJ ?_ ?_)⟩
     ·have c:=hc.length
      have:∀i,i<m->off+i<cs.length:=λi hi=>by
        have:=f i hi;rw[gQ (by omega)]at this;exact(iB.1 this.symm).1
      simp only[Rp]at c;simp only[Rp,Array.size_extract,j];rcases Nat.eq_zero_or_pos m with h0|h0
      ·omega
      ·have:=this (m-1) (by omega)
       omega
     ·intro i v hi
      have d:i<m:=by have:=(iB.1 hi).1;omega
      rw[f i d]at hi;obtain⟨x,hx,e⟩:=hc.get _ _ hi;refine⟨x,?_,e⟩;have a:mR[off+i]? =some x:=by simpa using hx
      have k:off+i<mR.size:=(Rl.1 a).1;rw[QM,Array.getElem?_extract];rw[if_pos (by omega)]
      exact a
 | false=>
   simp only[ha]at hv;obtain⟨x,hx,e⟩:=hc.get _ _ (Jx hv);have a:mR[off]? =some x:=by simpa using hx
   exact⟨x,by simp[part,DQ ha,a],e⟩
theorem Kb {s f:Nat} {a:Field} (h:Jb s f=some a):∃fs,P0.underlying s=some (.struct fs)/\fs[f]? =some a:=by
 unfold Jb at h;split at h
 ·rename_i fs b;exact⟨fs,b,by simpa using h⟩
 ·cases h
theorem Lj {s f:Nat} {p:PF} {xv:Value} {v:V} (w:World) (b:∀v,p.f t h=some v->fI Δ v xv) (hv:(mI s p f).f t h=some v) :
  ∃r,(Instr.fieldAt s xv f).run P0 w = .ok r w/\fI Δ v r:=by
 unfold mI at hv;split at hv
 ·rename_i c e;obtain⟨fs,g,a⟩:=Kb e;split at hv
  ·rename_i m i;simp only[fj,uc]at hv;obtain⟨x,j,l,off,rfl,k⟩:=hv;cases k
   cases b _ j with
   | ptr _ _ d n=>
     refine⟨_,by simp[Instr.fieldAt,fG g,a,Instr.sureAddr,fieldPlace,uJ i,nY];rfl,?_⟩;have:=fI.ptr (Δ:=Δ) l (off+c.offset) d n;rw[<-Xy]at this;exact this
  ·cases hv
 ·cases hv
theorem RX {s f:Nat} {p:PF} {xv:Value} {v:V} (w:World) (e:∀v,p.f t h=some v->fI Δ v xv) (hv:(FT s p f).f t h=some v) :
  ∃r,(Instr.field s xv f).run P0 w = .ok r w/\fI Δ v r:=by
 unfold FT at hv;split at hv
 ·rename_i k g;obtain⟨fs,i,b⟩:=Kb g;rw[fj]at hv;obtain⟨x,j,c⟩:=hv;have d:=e _ j;split at c
  ·cases d with
   | agg _ mR hc=>
     obtain⟨r,d,a⟩:=JX w hc c;exact⟨r,by simp[Instr.field,fG i,b,asAgg,d],a⟩
  ·cases c
 ·cases hv
theorem Lh {ty:Nat} {p q:PF} {xv u:Value} {v:V} (w:World) (y:∀v,p.f t h=some v->fI Δ v xv) (hq:∀v,q.f t h=some v->fI Δ v u)
  (hv:(mF ty p q).f t h=some v):∃r,(Instr.indexAt ty xv u).run P0 w = .ok r w/\fI Δ v r:=by
 unfold mF at hv;split at hv
 ·rename_i c e;split at hv
  ·rename_i m g;simp only[fj,G3]at hv;obtain⟨x,j,i,k,kd,n,rfl,b⟩:=hv;have hx:=y _ j;cases hq _ k;split at b
   ·rename_i l off len;rw[gM]at b;obtain⟨a,b⟩:=b;cases b;rw[LS]at a
    cases hx with
    | slice _ _ _ cap o d s A B z=>
      rcases z with⟨rfl,_,_⟩|⟨hc,_⟩
      ·refine⟨_,by simp[Instr.indexAt,asIntOf,fG e,uJ g,a,nY];rfl,?_⟩
       have:=fI.ptr (Δ:=Δ) l (off+n*m) d s;rw[<-Xy]at this;exact this
      ·omega
   ·cases b
  ·cases hv
 ·rename_i len c e;split at hv
  ·rename_i m g;simp only[fj,G3,uc,gM]at hv;obtain⟨x,j,i,k,kd,n,rfl,l,off,rfl,a,b⟩:=hv;cases b;rw[LS]at a;cases hq _ k
   cases y _ j with
   | ptr _ _ d s=>
     refine⟨_,by simp[Instr.indexAt,asIntOf,fG e,uJ g,a,nY,Instr.sureAddr];rfl,?_⟩;have:=fI.ptr (Δ:=Δ) l (off+n*m) d s;rw[<-Xy]at this;exact this
  ·cases hv
 ·cases hv
theorem SP {ty:Nat} {p q:PF} {xv n:Value} {v:V} (w:World) (o:∀v,p.f t h=some v->fI Δ v xv) (hq:∀v,q.f t h=some v->fI Δ v n)
  (hv:(FA ty p q).f t h=some v):∃r,(Instr.index ty xv n).run P0 w = .ok r w/\fI Δ v r:=by
 unfold FA at hv;split at hv
 ·rename_i len u j;split at hv
  ·rename_i m z;simp only[fj,G3]at hv;obtain⟨x,k,i,l,kd,d,rfl,a⟩:=hv;have hx:=o _ k;cases hq _ l;split at a
   ·rw[gM]at a;obtain⟨c,a⟩:=a;rw[LS]at c
    cases hx with
    | agg _ mR hc=>
      obtain⟨r,y,g⟩:=JX w hc a;refine⟨r,?_,g⟩;have e:(Nat.mul d m)=d*m:=rfl;rw[e]at y;simp[Instr.index,asIntOf,fG j,uJ z,c,y]
   ·cases a
  ·cases hv
 ·rename_i j;simp only[fj,G3]at hv;obtain⟨x,k,i,l,kd,d,rfl,a⟩:=hv;have hx:=o _ k;cases hq _ l;split at a
  ·rw[fj]at a;obtain⟨b,hb,a⟩:=a;cases a
   cases hx with
   | str s=>
     rw[List.head?_drop]at hb;have c:d<s.size:=(iB.1 hb).1;have hs:s[d]? =some b:=by
       rw[getElem?_pos s d c];have:=(iB.1 hb).2;simp only[Array.getElem_toList]at this;rw[<-this];rfl
     exact⟨.int .u8 b.toNat,by simp[Instr.index,asIntOf,fG j,hs],.int _ _⟩
  ·cases a
 ·cases hv
end
section
variable{Δ:Env}{h:Hp}{w:World}{n:Nat}{t:Tm}{a:Act}
inductive Bz (Δ:Env):Option V->Option Value->Prop
 |none:Bz Δ none none
 |some (v:V) (a:Value) (h:fI Δ v a):Bz Δ (some v) (some a)
theorem Jg (b:WR Δ h w) (c:TR Δ n t a) {x:Option Operand} {v:Option V} (hv:GX x t h=some v):Bz Δ v (x.map a.eval):=by
 cases x with
 |none=>simp only[GX]at hv;cases hv;exact .none
 | some x=>
   simp only[GX,fj]at hv;obtain⟨y,d,e⟩:=hv;cases e;exact .some _ _ (j6 b c d)
theorem C0 {d m:Nat} {lo:Option V} (hv:hbound d lo=some m):(lo=none/\m=d)\/∃k,lo=some (.int k (.ofNat m)):=by
 unfold hbound at hv;split at hv
 ·cases hv;exact .inl ⟨rfl,rfl⟩
 ·cases hv;exact .inr ⟨_,rfl⟩
 ·cases hv
theorem GS {k:IntKind} {m y:Nat} {c:BoundsCode} (w:World) (a:m<=y):(Instr.sliceBound (.int k (.ofNat m)) y c).run P0 w = .ok m w:=by
 have b:(0:Int)<=Int.ofNat m/\(Int.ofNat m)<=(y:Int):=⟨Int.natCast_nonneg m,by simp;exact a⟩
 simp only[Instr.sliceBound,asIntOf,pB,DW,oD];rw[if_pos b];rfl
theorem Hk {XE:Bool} {len cap l u:Nat} {lo hi:Option V} {b c:Option Value} (w:World) (d:Bz Δ lo b) (a:Bz Δ hi c)
  (h:hbound 0 lo=some l) (g:hbound len hi=some u) (e:l<=u) (f:u<=cap):(Instr.sliceBounds XE len cap b c none).run P0 w = .ok (l,u,cap) w:=by
 rcases C0 h with⟨rfl,rfl⟩|⟨k,rfl⟩
 ·cases d;rcases C0 g with⟨rfl,rfl⟩|⟨k,rfl⟩
  ·cases a;rfl
  ·cases a with|some _ _ hr=>
   cases hr;simp only[Instr.sliceBounds,pB,DW,oD,GS w f]
 ·cases d with|some _ _ hr=>
  cases hr;rcases C0 g with⟨rfl,rfl⟩|⟨k,rfl⟩
  ·cases a;simp only[Instr.sliceBounds,pB,DW,oD,GS w e]
  ·cases a with|some _ _ hr=>
   cases hr;simp only[Instr.sliceBounds,pB,DW,oD,GS w f,GS w e]
theorem Qj (P:WR Δ h w) {ty f size:Nat} {x v:V} {xv:Value} {lo hi:Option V} {k m:Option Value} (hx:fI Δ x xv) (p:Bz Δ lo k) (q:Bz Δ hi m)
  (L:P0.underlying ty=some (.slice f)) (hs:wU f=some (size+1)) (hv:iJ (Nat.succ size) x lo hi h=some v) :
  ∃r,(Instr.sliceAt ty xv k m none).run P0 w = .ok r w/\fI Δ v r:=by
 unfold iJ at hv;split at hv
 ·rename_i lc off len;rw[j8]at hv;obtain⟨e,sz,live,ro,cs,Q,hv⟩:=hv;simp only[gM,fj]at hv;obtain⟨B,l,C,u,D,E,a,hv⟩:=hv;cases hv;have g:=tU B;have i:=G9 E
  cases hx with
  | slice _ _ _ cap o d F M G A=>
    obtain ⟨ob,s,R⟩:=P.obj lc d F;rw[Q]at s;cases s;obtain⟨_,j,S,_,_⟩:=R;have t:u<=cap:=by
      rw[K6]at a;rcases a with a|a
      ·exact Ez (G9 a) G
      ·have N:off+u*(size+1)<=cs.length:=G9 a
       rcases A with⟨_,hb,_⟩|⟨hc,hb⟩
       ·rw[j,<-g]at hb
        have:u*(size+1)<=cap*(size+1):=by have e:Nat.succ size=size+1:=rfl;rw[e]at hb;omega
        exact Nat.le_of_mul_le_mul_right this (by omega)
       ·have:u*(size+1)=0:=by omega
        rcases Nat.mul_eq_zero.1 this with h0|h0 <;> omega
    have c:=Hk (XE:=true) (len:=len) (cap:=cap) w p q C D i t;have T:l<=cap:=Ez i t;refine⟨.slice (if cap=l then some ⟨d.b,o,none⟩ else some ⟨d.b,o+l*(size+1),none⟩) (u-l) (cap-l),?_,?_⟩
    ·simp only[Instr.sliceAt,pB,fG L,oD,Instr.slice,c,uJ hs]
     split <;> simp[nY, *]
    ·have y:cap*d.sz=l*d.sz+(cap-l)*d.sz:=by rw[<-JJ];congr 1;omega
     have O:d.sz=size+1:=by rw[j,<-g]
     split
     ·rename_i z
      refine .slice lc (Nat.add off (Nat.mul l (Nat.succ size))) (Nat.sub u l) (cap-l) o d F M ?_ (.inr ⟨by omega,?_⟩)
      ·show u-l<=cap-l;omega
      ·show d.n<=off+l*(size+1)
       rcases A with⟨_,hb,_⟩|⟨hc,hb⟩
       ·rw[z,O]at hb;exact hb
       ·omega
     ·rename_i z
      refine .slice lc (Nat.add off (Nat.mul l (Nat.succ size))) (Nat.sub u l) (cap-l) (o+l*(size+1)) d F M ?_ (.inl ?_)
      ·show u-l<=cap-l;omega
      ·show o+l*(size+1)=d.base+(off+l*(size+1))/\d.n<=off+l*(size+1)+(cap-l)*d.sz/\d.base+(off+l*(size+1))+(cap-l)*d.sz<=d.Pg
       rcases A with⟨A,hb,H⟩|⟨hc,hb⟩
       ·rw[O]at y hb H⊢
        omega
       ·omega
 ·simp only[gM,fj]at hv;obtain⟨l,C,u,D,G,I,hv⟩:=hv;cases hv;have J:=tU G;have K:=tU I;subst J;subst K;cases hx;have c:=Hk (XE:=true) (len:=0) (cap:=0) w p q C D (iW _) (iW _);exact⟨.slice none 0 0,by simp[Instr.sliceAt,fG L,Instr.slice,c,uJ hs],.ec⟩
 ·cases hv
theorem GJ (s:ByteArray) (p q:Nat):(s.extract p q).data.toList=(s.data.toList.drop p).take (q-p):=by
 obtain⟨⟨l⟩⟩:=s;rw[ByteArray.extract_mk]
theorem Qg {ty:Nat} {x v:V} {xv:Value} {lo hi:Option V} {a b:Option Value} (w:World) (hx:fI Δ x xv) (d:Bz Δ lo a) (e:Bz Δ hi b)
  (h:P0.underlying ty=some .string) (hv:Ng x lo hi=some v):∃r,(Instr.sliceAt ty xv a b none).run P0 w = .ok r w/\fI Δ v r:=by
 unfold Ng at hv;split at hv
 ·simp only[gM,fj]at hv;obtain⟨l,i,u,j,f,g,hv⟩:=hv;cases hv
  cases hx with
  | str s=>
    have c:=Hk (XE:=false) (len:=s.size) (cap:=s.size) w d e i j (G9 f) (G9 g);refine⟨.string (s.extract l u),by simp[Instr.sliceAt,fG h,Instr.slice,c],?_⟩;have:=fI.str (Δ:=Δ) (s.extract l u);rw[GJ]at this;exact this
 ·cases hv
theorem RS (b:WR Δ h w) (c:TR Δ n t a) {ty:Nat} {p:PF} {xv:Value} {lo hi:Option Operand} {v:V} (k:∀v,p.f t h=some v->fI Δ v xv)
  (hv:(He ty p lo hi).f t h=some v):∃r,(Instr.sliceAt ty xv (lo.map a.eval) (hi.map a.eval) none).run P0 w = .ok r w/\fI Δ v r:=by
 unfold He at hv;split at hv
 ·rename_i d;simp only[fj]at hv;obtain⟨x,e,l,g,u,i,j⟩:=hv;exact Qg w (k _ e) (Jg b c g) (Jg b c i) d j
 ·rename_i o d;split at hv
  ·rename_i m q;simp only[fj]at hv;obtain⟨x,e,l,g,u,i,j⟩:=hv;exact Qj b (k _ e) (Jg b c g) (Jg b c i) d q j
  ·cases hv
 ·cases hv
theorem Ig {ty:Nat} {x y:V} {xv f:Value} {b:Bool} (hx:fI Δ x xv) (g:fI Δ y f) (hv:B4 ty x y=some b) :
  (∀e w,(Op.equalIn (e+1) ty xv f).run P0 w = .ok b w)/\(∀d,P0.underlying ty=some d->Instr.sameNow d xv f=some b):=by
 unfold B4 at hv;split at hv
 ·rename_i a;split at hv
  ·rw[gM]at hv;obtain⟨h,hv⟩:=hv;cases hv;obtain rfl:=HH h;cases hx;cases g;exact⟨λe w=>run_equalIn_int w e ty _ _ _ _ a,λd c=>by rw[a]at c;cases c;simp[Instr.sameNow]⟩
  ·cases hv
 ·rename_i a;split at hv
  ·cases hv;cases hx with|str xs=>cases g with|str ys=>
   refine⟨λe w=>?_,λd c=>?_⟩
   ·rw[run_equalIn_string w e ty _ _ a,ByteArray.toList_eq,ByteArray.toList_eq]
   ·rw[a]at c;cases c;simp only[Instr.sameNow];rw[beq_toListBytes,ByteArray.toList_eq,ByteArray.toList_eq]
  ·cases hv
 ·rename_i a;split at hv
  ·cases hv;cases hx;cases g;exact⟨λe w=>run_equalIn_bool' w e ty _ _ a,λd c=>by rw[a]at c;cases c;simp[Instr.sameNow]⟩
  ·cases hv
 ·cases hv
theorem R0 {ty:Nat} (a:Cn ty=true):JD ty=some false:=by
 unfold Cn at a;unfold JD;split at a <;> simp_all
theorem Ih {ty:Nat} {cs:List V} {mR:Array Value} {off:Nat} {v:V} (w:World) (a:Cn ty=true) (hc:gh Δ cs mR.toList) (hv:AB cs off=some v) :
  ∃x,(part ty mR off).run P0 w = .ok x w/\fI Δ v x:=
 JX w hc (by unfold NC;rw[R0 a];exact hv)
theorem N8:∀{fs:List Field} {x y:List V} {xs ys:Array Value} {b:Bool},(∀f∈fs,Cn f.type=true/\f.name≠ "_")->gh Δ x xs.toList->gh Δ y ys.toList->
  Ip fs x y=some b->∀a w,(Op.eqFields (a+1) xs ys fs).run P0 w = .ok b w
 |[],x,y,xs,ys,b,_,_,_,hv,a,w=>by simp[Ip]at hv;subst hv;rfl
 | f::fs,x,y,xs,ys,b,hf,hx,hy,hv,a,w=>by
   simp only[Ip,fj]at hv;obtain⟨p,j,q,k,e,l,i⟩:=hv;obtain⟨c,d⟩:=hf f (by simp);obtain⟨r,m,g⟩:=Ih w c hx j;obtain⟨s,hq,h⟩:=Ih w c hy k;have n:=(Ig g h l).1 a w;simp only[Op.eqFields];rw[if_pos d];simp only[pB,m,hq,n,oD]
   cases e with
   |false=>cases i;rfl
   |true=>exact N8 (λf o=>hf f (by simp[o])) hx hy i a w
theorem L2 {ty:Nat} (a:FO ty=some none):Cn ty=true:=by
 unfold FO at a;unfold Cn;split at a <;> first|(split at a <;> cases a)|simp_all
theorem Kh {ty:Nat} {fs:List Field} (a:FO ty=some (some fs)):∃b,P0.underlying ty=some (.struct b)/\b.toList=fs/\P0.stoodInHeld ty=false/\∀f∈fs,Cn f.type=true/\f.name≠ "_" :=by
 unfold FO at a;split at a
 ·cases a
 ·cases a
 ·cases a
 ·rename_i b c;split at a
  ·rename_i hb;cases a;simp only[tN,X9,KQ,Pk,ne_eq]at hb;exact⟨b,c,rfl,hb.1,hb.2⟩
  ·cases a
 ·cases a
theorem UN {ty:Nat} {d:Option (List Field)} {x y:V} {xv g:Value} {b:Bool} (i:FO ty=some d) (hx:fI Δ x xv) (e:fI Δ y g) (hv:Jt ty d x y=some b) (w:World) :
  (Op.equal ty xv g).run P0 w = .ok b w:=by
 cases d with
 |none=>exact(Ig hx e hv).1 9999 w
 | some fs=>
   obtain⟨f,h,a,hs,j⟩:=Kh i;simp only[Jt]at hv;split at hv
   ·cases hx with|agg _ xs hx=>cases e with|agg _ ys e=>
    have c:P0.fieldsOf ty=f:=by simp[Program.fieldsOf,h]
    have:=run_equalIn_struct (P:=P0) w 9999 ty xs ys (by rw[c];exact h) hs;rw[c,a]at this;exact this.trans (N8 j hx e hv 9998 w)
   ·cases hv
def V1 (Δ:Env):Option (Nat×V)->Option (Nat×Value)->Prop
 |none,none=>True
 |some (i,v),some (i',v')=>i=i'/\fI Δ v v'
 |_,_=>False
theorem EO {ty:Nat} {d:Option (List Field)} {k:V} {kv:Value} (f:FO ty=some d) (g:fI Δ k kv) (w:World):∀{c:List (V×V×Nat)} {a:List MapEntry} {i:Nat} {r:Option (Nat×V)},
  sO Δ c a->oJ ty d k c i=some r->∃r',(Instr.findAsking ty kv a i).run P0 w = .ok r' w/\V1 Δ r r'
 |_,_,i,r,.nil,hv=>by simp[oJ]at hv;subst hv;exact⟨none,rfl,trivial⟩
 | _,_,i,r,.cons k' v n e c a hk' hv' hb hs,hv=>by
   simp only[oJ,fj]at hv;obtain⟨b,j,h⟩:=hv;have l:=UN f g hk' j w;simp only[Instr.findAsking,pB,l,oD]
   cases b with
   |true=>cases h;exact⟨some (i,e.val),rfl,rfl,hv'⟩
   |false=>exact EO f g w hs h
theorem KX {ty:Nat} {k:V} {kv:Value} {ds:TypeDesc} (d:P0.underlying ty=some ds) (f:fI Δ k kv):∀{c:List (V×V×Nat)} {a:List MapEntry} {i:Nat} {r:Option (Nat×V)},
  sO Δ c a->oJ ty none k c i=some r->∃r',Instr.findNow ds kv a i=some r'/\V1 Δ r r'
 |_,_,i,r,.nil,hv=>by simp[oJ]at hv;subst hv;exact⟨none,rfl,trivial⟩
 | _,_,i,r,.cons k' v n e c a hk' hv' hb hs,hv=>by
   simp only[oJ,fj]at hv;obtain⟨b,h,g⟩:=hv;have j:=(Ig f hk' h).2 ds d;simp only[Instr.findNow,j]
   cases b with
   |true=>cases g;exact⟨some (i,e.val),rfl,rfl,hv'⟩
   |false=>exact KX d f hs g
theorem BT {ty:Nat} {d:Option (List Field)} {k:V} {kv:Value} (g:FO ty=some d) (o:fI Δ k kv) (w:World) {f:List (V×V×Nat)} {a:List MapEntry} {r:Option (Nat×V)}
  (p:sO Δ f a) (hv:oJ ty d k f 0=some r):∃r',(Instr.findKey ty kv a).run P0 w = .ok r' w/\V1 Δ r r':=by
 cases d with
 | none=>
   have q:=L2 g;unfold Cn at q
   cases b:P0.underlying ty with
   |none=>simp[b]at q
   | some ds=>
     obtain⟨r',h,i⟩:=KX b o p hv
     exact⟨r',by simp[Instr.findKey,fG b,h],i⟩
 | some fs=>
   obtain⟨c,b,_,_,_⟩:=Kh g
   cases p with
   | nil=>
     simp[oJ]at hv;subst hv
     exact⟨none,by simp[Instr.findKey,fG b,Instr.findNow],trivial⟩
   | cons k' v n e f a j l hb hs=>
     obtain ⟨r',h,i⟩:=EO g o w (.cons k' v n e f a j l hb hs) hv;refine⟨r',?_,i⟩;have m:Instr.findNow (.struct c) kv (e::a) 0=none:=by
       simp only[Instr.findNow];have:Instr.sameNow (.struct c) kv e.key=none:=by cases kv <;> rfl
       rw[this]
     simp only[Instr.findKey,pB,fG b,oD,m];exact h
theorem Di {em:Bool} {q:Nat} {cs:List V} {mR:Array Value} (w:World) (hq:0<q) (hc:gh Δ cs mR.toList):∀(fs:List Field),(∀f∈fs,Cn f.type=true/\f.name≠ "_")->
  (fs.all λf=>(AB cs f.offset).isSome)=true->
  (forIn fs PUnit.unit (λf _=>if f.name≠ "_" then do
    let x <-part f.type mR f.offset
    Instr.checkKey em q f.type x
    pure (ForInStep.yield PUnit.unit)
   else pure (ForInStep.yield PUnit.unit):Field->PUnit->Sem (ForInStep PUnit))).run P0 w = .ok PUnit.unit w
 |[],_,_=>rfl
 | f ::fs,hf,hh=>by
   obtain⟨m,rfl⟩:∃m,q=m+1:=⟨q-1,by omega⟩
   obtain ⟨a,c⟩:=hf f (by simp);simp only[W7,tN]at hh;obtain⟨v,hv⟩:=Option.isSome_iff_exists.1 hh.1;obtain⟨x,hx,h⟩:=Ih w a hc hv;have d:(Instr.checkKey em (m+1) f.type x).run P0 w = .ok () w:=by
     unfold Cn at a;split at a
     ·rename_i b;simp[Instr.checkKey,fG b]
     ·rename_i b;simp[Instr.checkKey,fG b]
     ·rename_i b;simp[Instr.checkKey,fG b]
     ·cases a
   have e:=Di (em:=em) (q:=m+1) w hq hc fs (λf g=>hf f (by simp[g])) hh.2;rw[List.forIn_cons];rw[if_pos c];simp only[pB,hx,d,oD,DW];exact e
theorem wJ {ty:Nat} {d:Option (List Field)} {k:V} {kv:Value} (em:Bool) (q:Nat) (hq:0<q) (w:World) (f:FO ty=some d) (g:fI Δ k kv) (e:Fu d k=true) :
  (Instr.checkKey em (q+1) ty kv).run P0 w = .ok () w:=by
 cases d with
 | none=>
   have a:=L2 f;unfold Cn at a;split at a
   ·rename_i b;simp[Instr.checkKey,fG b]
   ·rename_i b;simp[Instr.checkKey,fG b]
   ·rename_i b;simp[Instr.checkKey,fG b]
   ·cases a
 | some fs=>
   obtain⟨h,b,c,_,i⟩:=Kh f;simp only[Fu]at e;split at e
   ·cases g with
    | agg cs mR hc=>
      have:=Di (em:=em) (q:=q) w hq hc fs i e;rw[<-c,Array.forIn_toList]at this;simp only[Instr.checkKey,pB,fG b,oD,this];rfl
   ·cases e
end
section
variable{Δ:Env}{h:Hp}{w:World}{n:Nat}{t:Tm}{a:Act}
theorem FQ (g:WR Δ h w) {l:Nat} {d:D} (i:Δ l=some d) {e:List (V×V×Nat)} {c:Nat} (j:h.get l=some (.map e c)) :
  ∃a,w.heap[d.b]? =some (.map a c)/\sO Δ e a.toList:=by
 obtain⟨o,f,k⟩:=g.obj l d i;rw[j]at f;cases f;obtain⟨_,_,_,a,m,n⟩:=k;exact⟨a,m,n⟩
theorem run_getObj_map{r:Nat}{a:Array MapEntry}{c:Nat}(b:w.heap[r]? =some (.map a c)):(getObj r).run P0 w = .ok (.map a c) w:=by simp[getObj,Sem.run,b]
theorem N3 {z:V} {a:Value} {ok:Bool} {r:Option (Nat×V)} {r':Option (Nat×Value)} (c:fI Δ z a) (b:V1 Δ r r') :
  fI Δ (found z ok r) (match r' with
   |some (_,v)=>if ok then .tuple #[v,.bool true] else v
   |none=>if ok then .tuple #[a,.bool false] else a):=by
 cases r with
 | none=>cases r' with
   |none=>cases ok
          ·exact c
          ·exact .tuple _ _ (.cons _ _ _ _ c (.one (.bool false)))
   |some _=>cases b
 | some x=>cases r' with
   |none=>cases b
   | some d=>
     obtain⟨_,hv⟩:=b;cases ok
     ·exact hv
     ·exact .tuple _ _ (.cons _ _ _ _ hv (.one (.bool true)))
theorem PD (E:WR Δ h w) {y:Nat} {p q:PF} {ok:Bool} {A kv:Value} {v:V} (F:∀v,p.f t h=some v->fI Δ v A) (hq:∀v,q.f t h=some v->fI Δ v kv)
  (hv:(Ek y p q ok).f t h=some v):∃r,(Instr.lookup y A kv ok).run P0 w = .ok r w/\fI Δ v r:=by
 unfold Ek at hv;split at hv
 ·rename_i M N B;split at hv
  ·rename_i d z j G;obtain⟨O,g,i,_⟩:=ym G;simp only[fj,gM]at hv;obtain⟨m,H,k,I,C,a⟩:=hv;have D:=F _ H;have n:=hq _ I;split at a
   ·cases a;cases D;have b:=wJ true 9999 (by omega) w j n C;have e:=BT j n w sO.nil (r:=none) (by simp[oJ]);obtain⟨r',e,o⟩:=e;have s:r' = none:=by cases r' <;> first|rfl|cases o
    subst s;refine⟨_,?_,N3 (ok:=ok) (r:=none) (r':=none) (i Δ) trivial⟩;simp only[Instr.lookup,pB,fG B,oD,DW];rw[show(#[]:Array MapEntry).isEmpty=true from rfl,b];simp only[oD];rw[e];simp only[oD,pB,g,DW]
   ·simp only[yI,fj]at a;obtain⟨P,c,J,r,e,a⟩:=a;cases a
    cases D with
    | map l Q K=>
      obtain⟨u,hb,L⟩:=FQ E K J;obtain⟨r',e,o⟩:=BT j n w L e;have b:=wJ u.isEmpty 9999 (by omega) w j n C;refine⟨_,?_,N3 (ok:=ok) (i Δ) o⟩;simp only[Instr.lookup,pB,fG B,oD,DW,run_getObj_map hb,b,e]
      cases r' with
      |none=>simp only[pB,g,oD,DW]
      |some x=>rfl
   ·cases a
  ·cases hv
 ·cases hv
theorem Xk (y:WR Δ h w) {ty:Nat} {o:Array Nat} (i:o[0]? =some ty) {rt:Nat} {p:PF} {xv:Value} {v:V} (u:∀v,p.f t h=some v->fI Δ v xv)
  (hv:(hlen ty p).f t h=some v):∃r,(Builtin.len_ o rt #[xv]).run P0 w = .ok r w/\fI Δ v r:=by
 unfold hlen at hv;split at hv
 ·rename_i j;rw[fj]at hv;obtain⟨x,n,g⟩:=hv;have hx:=u _ n;split at g
  ·cases g
   cases hx with
   |str s=>exact⟨goInt s.size,by simp[Builtin.len_,i,fG j],.int _ _⟩
  ·cases g
 ·rename_i e j;rw[fj]at hv;obtain⟨x,n,g⟩:=hv;have hx:=u _ n;split at g
  ·rename_i lc off m;cases g;cases hx;exact⟨goInt m,by simp[Builtin.len_,i,fG j],.int _ _⟩
  ·cases g;cases hx;exact⟨goInt 0,by simp[Builtin.len_,i,fG j],.int _ _⟩
  ·cases g
 ·rename_i m e j;rw[fj]at hv;obtain⟨x,n,g⟩:=hv;cases g;exact⟨goInt m,by simp[Builtin.len_,i,fG j],.int _ _⟩
 ·rename_i k e j;rw[fj]at hv;obtain⟨x,n,g⟩:=hv;have hx:=u _ n;split at g
  ·cases g;cases hx;exact⟨goInt 0,by simp[Builtin.len_,i,fG j],.int _ _⟩
  ·rw[yI]at g;obtain⟨z,c,A,g⟩:=g;cases g
   cases hx with
   | map l d B=>
     obtain ⟨q,hb,C⟩:=FQ y B A;have hlen:z.length=q.size:=by
       have:∀{a:List (V×V×Nat)} {b:List MapEntry},sO Δ a b->a.length=b.length:=λh=>by induction h <;> simp_all
       simpa using this C
     refine⟨goInt q.size,by simp[Builtin.len_,i,fG j,run_getObj_map hb],?_⟩;rw[hlen];exact .int _ _
  ·cases g
 ·cases hv
theorem No {c:Bool} (w:World):∀{l:List V} {d:List Value} {x:V} {a:Value} {v:V},fI Δ x a->gh Δ l d->OW c x l=some v->
  ∃r,(d.foldlM (if c then Builtin.max2 else Builtin.min2) a).run P0 w = .ok r w/\fI Δ v r
 |[],_,x,a,v,hx,hl,hv=>by simp[OW]at hv;subst hv;cases hl;exact⟨a,rfl,hx⟩
 | y ::l,_,x,a,v,hx,hl,hv=>by
   cases hl with
   | cons _ j _ d g hs=>
     unfold OW at hv;split at hv
     ·rename_i e;cases e
     ·rename_i k p k' q r h
      cases h;cases hx;cases g;obtain⟨f,b,i⟩:=No w (.int k _) hs hv;refine⟨f,?_,i⟩;rw[List.foldlM_cons];simp only[pB];cases c
      ·simp only[Li,if_false,Builtin.min2,DW,oD]at b⊢;exact b
      ·simp only[if_true,Builtin.max2,DW,oD]at b⊢;exact b
     ·cases hv
theorem JM {ty:Nat} (hi:isIface ty=some false):∃d,P0.underlying ty=some d/\∀m,d≠ .interface m:=by
 unfold isIface at hi;split at hi
 ·cases hi
 ·rename_i d a b;exact⟨d,b,λm e=>a m (by rw[e])⟩
 ·cases hi
theorem PG {p:PF} {a xT:Nat} {ok:Bool} {xv:Value} {v:V} (w:World) (o:∀v,p.f t h=some v->fI Δ v xv)
  (hv:(Ej p a ok).f t h=some v):∃r,(Instr.typeAssert xv xT a ok).run P0 w = .ok r w/\fI Δ v r:=by
 unfold Ej at hv;split at hv
 ·rename_i z hi q;obtain⟨n,c,g,_⟩:=ym q;obtain⟨d,i,j⟩:=JM hi;rw[fj]at hv;obtain⟨x,s,b⟩:=hv;have hx:=o _ s;split at b
  ·rename_i u y;cases b
   cases hx with
   | iface _ _ k l=>
     rw[QO];by_cases e:u=a
     ·have m:Nat.beq u a=true:=by rw[e];exact MV _
      rw[if_pos m];refine⟨.tuple #[k,.bool true],?_,.tuple _ _ (.cons _ _ _ _ l (.one (.bool true)))⟩;simp only[Instr.typeAssert,pB,fG i,oD];cases d <;> first|exact absurd rfl (j _)|(rw[if_pos e];rfl)
     ·have m:¬Nat.beq u a=true:=λh=>e (tU h)
      rw[if_neg m];refine⟨.tuple #[n,.bool false],?_,.tuple _ _ (.cons _ _ _ _ (g Δ) (.one (.bool false)))⟩;simp only[Instr.typeAssert,pB,fG i,oD];cases d <;> first|exact absurd rfl (j _)|(rw[if_neg e];simp[c])
  ·rename_i u y;rw[gM]at b;obtain⟨e,b⟩:=b;cases b;have e:=tU e
   cases hx with
   | iface _ _ k l=>
     refine⟨k,?_,l⟩;simp only[Instr.typeAssert,pB,fG i,oD];cases d <;> first|exact absurd rfl (j _)|(rw[if_pos e];rfl)
  ·cases b;cases hx;refine⟨.tuple #[n,.bool false],?_,.tuple _ _ (.cons _ _ _ _ (g Δ) (.one (.bool false)))⟩;simp only[Instr.typeAssert,pB,fG i,oD];cases d <;> first|exact absurd rfl (j _)|simp[c]
  ·cases b
 ·cases hv
theorem TV {c p q:PF} {e pv d:Value} {v:V} (w:World) (hc:∀v,c.f t h=some v->fI Δ v e) (g:∀v,p.f t h=some v->fI Δ v pv) (hq:∀v,q.f t h=some v->fI Δ v d)
  (hv:(IG c p q).f t h=some v):∃r,(do pure (Next.value (if <-asBool e then pv else d)):Sem Next).run P0 w = .ok (.value r) w/\fI Δ v r:=by
 unfold IG at hv;simp only[fj]at hv;obtain⟨x,i,a⟩:=hv;have hx:=hc _ i;split at a
 ·rename_i b;cases hx;cases b
  ·exact⟨d,by simp[asBool],hq _ a⟩
  ·exact⟨pv,by simp[asBool],g _ a⟩
 ·cases a
theorem M0 {p:PF} {x:Operand} {v:V} (w:World) (g:∀v,p.f t h=some v->fI Δ v (a.eval x)) (hv:(tj p).f t h=some v) {dst ty pos af gd} :
  (execOp a.eval {dst:=dst,op:= .nilCheck x,type:=ty,pos:=pos,after:=af,guard:=gd}).run P0 w = .ok (.value (a.eval x)) w/\fI Δ v (a.eval x):=by
 unfold tj at hv;rw[fj]at hv;obtain⟨y,e,b⟩:=hv;have c:=g _ e;simp only[execOp];generalize a.eval x=xv at c⊢;split at b
 ·cases b;cases c with|ptr _ _ d hd=>exact⟨rfl,.ptr _ _ d hd⟩
 ·cases b;cases c with|func _ _ _ p' q' e b=>exact⟨rfl,.func _ _ _ p' q' e b⟩
 ·cases b;cases c with|iface _ _ v' hv=>exact⟨rfl,.iface _ _ v' hv⟩
 ·cases b
theorem ON {p:PF} {i:Nat} {xv:Value} {v:V} (w:World) (e:∀v,p.f t h=some v->fI Δ v xv) (hv:(Dy p i).f t h=some v) :
  ∃r,(Instr.extract xv i).run P0 w = .ok r w/\fI Δ v r:=by
 unfold Dy at hv;rw[fj]at hv;obtain⟨y,g,a⟩:=hv;have j:=e _ g;split at a
 ·cases j with
  | tuple vs b c=>
    obtain⟨x,hx,k⟩:=c.get _ _ (Jx a);have d:b[i]? =some x:=by simpa using hx
    exact⟨x,by simp[Instr.extract,d],k⟩
 ·cases a
theorem PB {cs:List V} {xs:List Value} {s:List UInt8} (e:gh Δ cs xs) (hv:bytesOf cs=some s):xs=(s.map λb=>(b.toNat:Int)).map (Value.int .u8):=by
 induction cs generalizing xs s with
 |nil=>cases e;simp[bytesOf]at hv;subst hv;rfl
 | cons c cs g=>
   simp only[bytesOf,fj]at hv;obtain⟨b,a,l,h,i⟩:=hv;cases i
   cases e with
   | cons _ x _ xs hx d=>
     rw[g d h];unfold byteOf at a;split at a
     ·rename_i m
      rw[gM]at a;obtain⟨f,j⟩:=a;cases j;cases hx;have k:m<256:=by rw[LS]at f;exact f
      have:(UInt8.ofNat m).toNat=m:=by simp;omega
      simp only[PW,this];rfl
     ·cases a
theorem Qm (l:List UInt8):∀(r:ByteArray),((l.map λb=>(b.toNat:Int)).foldl (λr n=>r.push (UInt8.ofNat n.toNat)) r).data.toList=r.data.toList++l:=by
 induction l with
 |nil=>intro r;simp
 | cons b l a=>
   intro r;simp only[PW,List.foldl_cons];rw[a];simp[ByteArray.push]
theorem JH {src dst e:Nat} (hs:P0.underlying src=some (.slice e)) (c:P0.underlying dst=some .string) (d:P0.underlying e=some (.int .u8)) {ad:Option Addr} {len cap:Nat} {cs:List V} {s:List UInt8}
  (hb:bytesOf cs=some s) (hc:∀b,ad=some b->∃xs,(loadCells b len).run P0 w = .ok (Array.mk xs) w/\gh Δ cs xs) (h:ad=none->s=[]) :
  ∃x,(convert src dst (.slice ad len cap)).run P0 w = .ok x w/\fI Δ (.str s) x:=by
 cases ad with
 | none=>
   cases h rfl
   exact⟨.string .empty,by simp[convert,fG hs,fG c,fG d,Conv.bytesToString],.str ByteArray.empty⟩
 | some b=>
   obtain⟨xs,f,i⟩:=hc b rfl;rw[PB i hb]at f;have g:=run_bytesToString (P:=P0) w b len cap _ f;generalize hB:(List.foldl (λr n=>ByteArray.push r (UInt8.ofNat n.toNat)) ByteArray.empty (List.map (λb=>(b.toNat:Int)) s))=B at g;have a:B.data.toList=s:=by rw[<-hB,Qm];rfl
   refine⟨.string B,?_,by rw[<-a];exact .str B⟩;simp only[convert,pB,fG hs,fG c,oD,fG d,g]
theorem uy (c:WR Δ h w) {l:Nat} {d:D} (e:Δ l=some d) {off m:Nat} {cs:List V} (hv:Ey h l off m=some cs) :
  ∃xs,(loadCells ⟨d.b,d.base+off,none⟩ m).run P0 w = .ok (Array.mk xs) w/\gh Δ cs xs:=by
 obtain⟨a,f,g⟩:=Gj c e hv;exact⟨a.toList,by simpa using f,g⟩
theorem Of {l off m:Nat} {cs:List V} (hv:Ey h l off m=some cs):cs.length=m:=by
 unfold Ey at hv;rw[j8]at hv;obtain⟨e,sz,live,ro,all,a,hv⟩:=hv;rw[gM]at hv;exact(sub_eq hv.2).1
theorem SW (n:WR Δ h w) {src dst e:Nat} {p:PF} {xv:Value} {v:V} (hs:P0.underlying src=some (.slice e)) (c:P0.underlying dst=some .string) (q:∀v,p.f t h=some v->fI Δ v xv) (hv:(Io src dst p).f t h=some v) :
  ∃r,(convert src dst xv).run P0 w = .ok r w/\fI Δ v r:=by
 unfold Io at hv;rw[hs,c]at hv;simp only at hv;split at hv
 ·rename_i k;simp only[fj]at hv;obtain⟨x,u,a⟩:=hv;have hx:=q _ u;split at a
  ·cases a;cases hx;exact JH (Δ:=Δ) (w:=w) (src:=src) (dst:=dst) (e:=e) (ad:=none) (len:=0) (cap:=0) (cs:=[]) (s:=[]) hs c k rfl (λb hb=>by cases hb) (λ_=>rfl)
  ·rename_i l off len;simp only[fj]at a;obtain⟨cs,m,s,y,z⟩:=a;cases z
   cases hx with
   | slice _ _ _ cap o d g D A B=>
     have i:∃xs,(loadCells ⟨d.b,o,none⟩ len).run P0 w = .ok (Array.mk xs) w/\gh Δ cs xs:=by
       rcases B with⟨rfl,_,_⟩|⟨rfl,_⟩
       ·exact uy n g m
       ·have:len=0:=by omega
        subst this;have j:cs=[]:=Rf (Of m);subst j;exact⟨[],by simp[loadCells,loadCellsFrom],.nil⟩
     exact JH (Δ:=Δ) (w:=w) (src:=src) (dst:=dst) (e:=e) (ad:=some ⟨d.b,o,none⟩) (len:=len) (cap:=cap) hs c k y (λb hb=>by cases hb;exact i) (λC=>by cases C)
  ·cases a
 ·cases hv
theorem gh.toArray{l:List Operand}{vs:List V}(h:gh Δ vs (l.map a.eval)):gh Δ vs (l.toArray.map a.eval).toList:=by simpa using h
theorem Xm (I:WR Δ h w) (F:TR Δ n t a) {o:Oper} {v:V} (hv:(ir o).f t h=some v):∃x,(execOp a.eval o).run P0 w = .ok (.value x) w/\fI Δ v x:=by
 obtain⟨dst,op,ty,pos,af,gd⟩:=o;have u:∀(x:Operand) v,(rB x).f t h=some v->fI Δ v (a.eval x):=λx v hx=>j6 I F hx
 cases op with
 |move x=>exact⟨_,rfl,u x v hv⟩
 |assign x=>exact⟨_,rfl,u x v hv⟩
 |pick c p q=>exact TV w (u c) (u p) (u q) hv
 | load ty S=>
   obtain⟨x,C,A⟩:=KD I (u S) hv
   exact⟨x,lQ C,A⟩
 | nilCheck x=>
   obtain⟨C,A⟩:=M0 w (u x) hv (dst:=dst) (ty:=ty) (pos:=pos) (af:=af) (gd:=gd)
   exact⟨_,C,A⟩
 | binOp op T x y yt=>
   simp only[ir,fj]at hv;obtain⟨p,C,q,A,G⟩:=hv;obtain⟨r,j,z⟩:=Wb (X:=x) (Y:=y) w (u x _ C) (u y _ A) G
   exact⟨r,lQ j,z⟩
 | unOp op T x=>
   simp only[ir,fj]at hv;obtain⟨p,C,A⟩:=hv;obtain⟨r,j,z⟩:=YS w (u x _ C) A
   exact⟨r,lQ j,z⟩
 | convert src d x=>
   have K:∃r,(convert src d (a.eval x)).run P0 w = .ok r w/\fI Δ v r:=by
     by_cases hsl:∃e,P0.underlying src=some (.slice e)/\P0.underlying d=some .string
     ·obtain⟨e,C,A⟩:=hsl
      exact SW I C A (u x) hv
     ·exact Vh w hsl (u x) hv
   obtain⟨r,j,z⟩:=K
   exact⟨r,lQ j,z⟩
 | build ty parts=>
   obtain⟨r,j,z⟩:=Sp F hv;refine⟨r,lQ ?_,z⟩;rw[<-j];congr 2;apply Array.ext'
   simp
 | makeFunc fn first R=>
   cases fn with
   | func f=>
     simp only[ir,fj]at hv;obtain⟨p,C,q,A,G⟩:=hv;cases G;refine⟨_,rfl,.func f p q _ _ ?_ ?_⟩
     ·have:=zT F C;simpa using this
     ·have:=zT F A;simpa using this
   |_=>cases hv
 | slice ty x lo hi U=>
   cases U with
   | none=>
     obtain⟨r,j,z⟩:=RS I F (u x) hv
     exact⟨r,lQ j,z⟩
   |some _=>cases hv
 | fieldAddr s x f=>
   obtain⟨r,j,z⟩:=Lj w (u x) hv
   exact⟨r,lQ j,z⟩
 | field s x f=>
   obtain⟨r,j,z⟩:=RX w (u x) hv
   exact⟨r,lQ j,z⟩
 | indexAddr ty x i=>
   obtain⟨r,j,z⟩:=Lh w (u x) (u i) hv
   exact⟨r,lQ j,z⟩
 | index ty x i=>
   obtain⟨r,j,z⟩:=SP w (u x) (u i) hv
   exact⟨r,lQ j,z⟩
 | lookup ty m k ok=>
   obtain⟨r,j,z⟩:=PD I (u m) (u k) hv
   exact⟨r,lQ j,z⟩
 | extract x i=>
   obtain⟨r,j,z⟩:=ON w (u x) hv
   exact⟨r,lQ j,z⟩
 | makeInterface ty x=>
   simp only[ir]at hv;split at hv
   ·rename_i hi
    obtain⟨d,W,Z⟩:=JM hi;simp only[fj]at hv;obtain⟨p,C,A⟩:=hv;cases A;refine⟨.iface ty (a.eval x),lQ ?_,.iface _ _ _ (u x _ C)⟩;simp only[Instr.makeInterface,pB,fG W,oD];cases d <;> first|exact absurd rfl (Z _)|rfl
   ·cases hv
 | typeAssert x xT J ok=>
   obtain⟨r,j,z⟩:=PG (xT:=xT) w (u x) hv
   exact⟨r,lQ j,z⟩
 | call c =>
   obtain⟨E,args,D⟩:=c;simp only[ir]at hv
   cases E with
   | builtin b=>
     cases b <;> try (cases hv;done)
     case len=>
       simp only at hv;split at hv
       ·rename_i x N aa g L
        have O:D[0]? =some N:=by rw[<-QM,L];rfl
        obtain⟨r,j,z⟩:=Xk I (rt:=ty) O (u x) hv;refine⟨r,?_,z⟩;have M:args.map a.eval = #[a.eval x]:=by apply Array.ext';simp[g]
        simp only[execOp,resolve,M];exact lQ j
       ·cases hv
     case min=>
       simp only[fj]at hv;obtain⟨l,C,A⟩:=hv;split at A
       ·rename_i x r
        have B:=zT F C
        cases g:args.toList.map a.eval with
        |nil=>rw[g]at B;cases B
        | cons P r'=>
          rw[g]at B
          cases B with
          | cons _ _ _ _ hx Q=>
            obtain⟨H,G,j⟩:=No w hx Q A;refine⟨H,?_,j⟩;have M:(args.map a.eval).toList=P::r':=by simpa using g
            simp only[execOp,resolve];refine lQ ?_;simp only[Builtin.min_,M];simpa using G
       ·cases A
     case max=>
       simp only[fj]at hv;obtain⟨l,C,A⟩:=hv;split at A
       ·rename_i x r
        have B:=zT F C
        cases g:args.toList.map a.eval with
        |nil=>rw[g]at B;cases B
        | cons P r'=>
          rw[g]at B
          cases B with
          | cons _ _ _ _ hx Q=>
            obtain⟨H,G,j⟩:=No w hx Q A;refine⟨H,?_,j⟩;have M:(args.map a.eval).toList=P::r':=by simpa using g
            simp only[execOp,resolve];refine lQ ?_;simp only[Builtin.max_,M];simpa using G
       ·cases A
   |value f=>cases hv
   |invoke r m=>cases hv
 |_=>cases hv
end
def RW (Δ:Env)(b:Nat):Prop:=∃l d,Δ l=some d/\d.ro=false/\d.b=b
structure FR (Δ a:Env) (w w':World):Prop where
 le:Δ.le a
 size:w.heap.size<=w'.heap.size
 os:w'.os=w.os
 tape:w'.tape=w.tape
 output:w'.output=w.output
 fc:∀b,b<w.heap.size->¬RW Δ b->w'.heap[b]? =w.heap[b]?
 new:∀l d,a l=some d->Δ l=some d\/w.heap.size<=d.b\/RW Δ d.b
theorem FR.refl (Δ:Env)(w:World):FR Δ Δ w w:=⟨Env.le_refl _,iW _,rfl,rfl,rfl,λ_ _ _=>rfl,λ_ _ h=> .inl h⟩
theorem FR.trans {Δ n e:Env} {w w' f:World} (h:FR Δ n w w') (h':FR n e w' f):FR Δ e w f where
 le:=Env.le_trans h.le h'.le
 size:=Ez h.size h'.size
 os:=h'.os.trans h.os
 tape:=h'.tape.trans h.tape
 output:=h'.output.trans h.output
 fc:=λb hb i=>by
  rw[h'.fc b (Ac hb h.size) ?_,h.fc b hb i];rintro⟨l,d,j,q,rfl⟩;rcases h.new l d j with a|a|a
  ·exact i ⟨l,d,a,q,rfl⟩
  ·omega
  ·exact i a
 new:=λl d j=>by
  rcases h'.new l d j with a|a|⟨o,p,k,m,c⟩
  ·exact h.new l d a
  ·exact .inr (.inl (Ez h.size a))
  ·rcases h.new o p k with g|g|g
   ·exact .inr (.inr ⟨o,p,g,m,c⟩)
   ·exact .inr (.inl (by rw[<-c];exact g))
   ·exact .inr (.inr (by rw[<-c];exact g))
theorem uE (h:Hp) (o:O) (l:Nat):(h.new o).get l=if h.next=l then some o else h.get l:=by
 rw[Hp.get_eq,Hp.get_eq];unfold Hp.new;simp only[Tr.G4];by_cases a:h.next=l
 ·subst a;simp
 ·simp only[a,if_false];by_cases b:l<h.next
  ·rw[if_pos (by omega),if_pos b]
  ·rw[if_neg (by omega),if_neg b]
theorem oE {h:Hp} {l:Nat} (o:O) (m:Nat) (b:l<h.next):(h.put l o).get m=if l=m then some o else h.get m:=by
 rw[Hp.get_eq,Hp.get_eq];unfold Hp.put;simp only[Tr.G4];by_cases a:l=m
 ·subst a;simp[b]
 ·simp only[a,if_false]
def Env.set (Δ:Env)(l:Nat)(d:D):Env:=λm=>if m=l then some d else Δ m
theorem Env.xe {Δ:Env} {l:Nat} {d:D} (h:Δ l=none):Δ.le (Δ.set l d):=λm e a=>by
 unfold Env.set;by_cases he:m=l
 ·subst he;rw[h]at a;cases a
 ·rw[if_neg he];exact a
theorem Env.tP (Δ:Env)(l:Nat)(d:D):(Δ.set l d) l=some d:=if_pos rfl
theorem Env.kT {Δ:Env} {l m:Nat} {d e:D} (h:(Δ.set l d) m=some e):(m=l/\e=d)\/(m≠l/\Δ m=some e):=by
 unfold Env.set at h;by_cases he:m=l
 ·rw[if_pos he]at h;cases h;exact .inl ⟨he,rfl⟩
 ·rw[if_neg he]at h;exact .inr ⟨he,h⟩
theorem WR.DR {Δ:Env} {h:Hp} {w:World} (a:WR Δ h w):Δ h.next=none:=by
 cases hd:Δ h.next with
 |none=>rfl
 |some d=>exact absurd (a.fresh _ _ hd) (Pj _)
theorem heap_alloc (w:World) (ob:Obj) (b:Nat):(w.alloc ob).heap[b]? =if b=w.heap.size then some ob else w.heap[b]?:=by
 unfold World.alloc;simp only[Array.getElem?_push]
theorem AQ.step {Δ m:Env} {w w':World} (h:AQ Δ w) (p:∀b,b<w.heap.size->¬RW Δ b->w'.heap[b]? =w.heap[b]?) (q:∀l d,m l=some d->d.ro=false->Δ l=some d\/w.heap.size<=d.b\/RW Δ d.b):AQ m w':=by
 intro g c r;obtain⟨⟨e,fr,n⟩,o⟩:=h g c r;have j:=(Rl.1 n).1;have f:¬RW Δ g:=λ⟨l,d,k,a,hb⟩=>o l d k a hb;refine⟨⟨e,fr,by rw[p g j f];exact n⟩,λl d k a hb=>?_⟩;rcases q l d k a with i|i|i
 ·exact o l d i a hb
 ·omega
 ·rw[hb]at i;exact f i
theorem WR.lay {Δ:Env} {h:Hp} {w:World} (c:WR Δ h w) {l:Nat} {o:O} {d:D} {ob:Obj} (y:Δ l=none) (B:l<h.next) (C:h.get l=some o) (hb:d.b=w.heap.size)
  (E:O7 (Δ.set l d) d o (some ob)):WR (Δ.set l d) h (w.alloc ob) where
 fresh:=λm e a=>by
  rcases Env.kT a with⟨rfl,rfl⟩|⟨_,a⟩
  ·exact B
  ·exact c.fresh m e a
 mS:=λm e a=>by
  simp only[World.size_alloc];rcases Env.kT a with⟨rfl,rfl⟩|⟨_,a⟩
  ·omega
  ·have:=c.mS m e a;omega
 obj:=λm e a=>by
  rcases Env.kT a with⟨rfl,rfl⟩|⟨_,a⟩
  ·refine⟨o,C,?_⟩;rw[heap_alloc,if_pos hb];exact E
  ·obtain⟨F,f,i⟩:=c.obj m e a;refine⟨F,f,?_⟩;rw[heap_alloc,if_neg (O6 (c.mS m e a))];exact i.mono (Env.xe y)
 apart:=λm z e A p G a q j r s t k u=>by
  rcases Env.kT a with⟨f,i⟩|⟨_,f⟩ <;> rcases Env.kT q with⟨n,H⟩|⟨_,n⟩
  ·exact absurd (f.trans n.symm) j
  ·have:=c.mS z A n;rw[i];omega
  ·have:=c.mS m e f;rw[H];omega
  ·exact c.apart m z e A p G f n j r s t k u
 Fo:=λg p v r=>by
  obtain⟨e,f,i⟩:=c.Fo g p v r;exact⟨e,Env.xe y _ _ f,i⟩
 xu:=c.xu
 Rg:=c.Rg.step (λb x _=>by rw[heap_alloc,if_neg (O6 x)]) λm e a _=>by
  rcases Env.kT a with⟨rfl,rfl⟩|⟨_,a⟩
  ·exact .inr (.inl (by omega))
  ·exact .inl a
theorem WR.more {Δ:Env} {h:Hp} {w:World} (a:WR Δ h w) (o:O):WR Δ (h.new o) w where
 fresh:=λl d i=>YZ (a.fresh l d i)
 mS:=a.mS
 obj:=λl d i=>by
  obtain⟨q,r,s⟩:=a.obj l d i;refine⟨q,?_,s⟩;rw[uE,if_neg (Nat.ne_of_gt (a.fresh l d i))];exact r
 apart:=λm t e u p v n b j c f=>by
  rw[uE,if_neg (Nat.ne_of_gt (a.fresh _ _ n))]at c;rw[uE,if_neg (Nat.ne_of_gt (a.fresh _ _ b))]at f;exact a.apart m t e u p v n b j c f
 Fo:=λg p k c=>by
  rw[uE,if_neg (by have:=a.xu;omega)]at c;exact a.Fo g p k c
 xu:=VL a.xu
 Rg:=a.Rg
theorem FR.lay {Δ:Env} {w:World} {l:Nat} {d:D} {ob:Obj} (f:Δ l=none) (hb:d.b=w.heap.size):FR Δ (Δ.set l d) w (w.alloc ob) where
 le:=Env.xe f
 size:=by simp
 os:=rfl
 tape:=rfl
 output:=rfl
 fc:=λb a _=>by rw[heap_alloc,if_neg (O6 a)]
 new:=λm e c=>by
  rcases Env.kT c with⟨rfl,rfl⟩|⟨_,c⟩
  ·exact .inr (.inl (by omega))
  ·exact .inl c
def Made (Δ:Env) (ob:O) (mk:Nat->V) (a:Obj) (c:Nat->Value):Prop:=
 ∀l b,Δ l=none->∃d,d.b=b/\O7 (Δ.set l d) d ob (some a)/\fI (Δ.set l d) (mk l) (c b)
theorem z7 {Δ:Env} {d:D} {cs:List V} {c:Array Value} {e:Nat} (hs:c.size=d.Pg) (hb:d.base=0) (a:cs.length<=d.Pg) (hc:∀(i:Nat) (v:V),cs[i]? =some v->∃x,c[i]? =some x/\fI Δ v x) :
  Ef Δ d cs (some (.cells c e (0,0))):=
 ⟨c,e,(0,0),rfl,hs,λ_=> .inl rfl,by omega,λi v hi=>by rw[hb,vI];exact hc i v hi⟩
theorem QY {Δ:Env} {e:Nat} {v:V} {xv:Value} {ob:O} {mk:Nat->V} (hx:fI Δ v xv) (hv:nP e v=some (ob,mk)) :
  Made Δ ob mk (.cells xv.cells e) (λb=> .pointer (some ⟨b,0,none⟩)):=by
 unfold nP at hv;rw[gM]at hv;obtain⟨_,hv⟩:=hv;cases hv;intro l b f;have hc:=hx.cells;have a:=Env.xe (d:=⟨b,0,1,v.cells.length,xv.cells.size,false,0⟩) f;refine⟨⟨b,0,1,v.cells.length,xv.cells.size,false,0⟩,rfl,⟨rfl,rfl,rfl,rfl,λ_=>?_⟩,?_⟩
 ·refine z7 rfl rfl (VH (by first|(simpa using hc.length)|(simpa using c.length))) λi u hi=>?_;obtain⟨x,hx,c⟩:=hc.get i u hi;exact⟨x,by simpa using hx,c.mono a⟩
 ·exact fI.ptr l 0 ⟨b,0,1,v.cells.length,xv.cells.size,false,0⟩ (Env.tP _ _ _)
theorem D1 {a size jr:Nat} {z:V} (h:elemOf a=some (size,jr,z)) :
  wU a=some size/\WG a=some jr/\zeroV a=some z/\0<size/\z.cells.length=size/\fV z.cells=true:=by
 unfold elemOf at h;simp only[fj,gM]at h;obtain⟨s,d,b,e,k,f,c,g,i,j⟩:=h;cases j;rw[LS]at c;exact⟨d,e,f,c,tU g,i⟩
theorem yz {t e:Nat} (h:D2 t=some e):P0.underlying t=some (.slice e):=by
 unfold D2 at h;split at h
 ·rename_i b a;cases h;exact a
 ·cases h
theorem NQ (z:List V):∀(m i:Nat),(yT m z)[i]? =if i<m*z.length then z[i % z.length]? else none
 |0,i=>by simp[yT]
 | m + 1,i=>by
   simp only[yT,List.getElem?_append];by_cases a:i<z.length
   ·rw[if_pos a,if_pos (by rw[JJ];omega),Nat.mod_eq_of_lt a]
   ·rw[if_neg a,NQ z m]
    have e:i % z.length=(i-z.length) % z.length:=by
      rw[Nat.mod_eq_sub_mod (by omega)]
    rw[e];by_cases b:i-z.length<m*z.length
    ·rw[if_pos b,if_pos (by rw[JJ];omega)]
    ·rw[if_neg b,if_neg (by rw[JJ];omega)]
theorem zV (z:List V):∀m,(yT m z).length=m*z.length
 |0=>by simp[yT]
 |m+1=>by simp[yT,zV z m,JJ,Nat.add_comm]
theorem NL {Δ:Env} {z:List V} {b:Array Value} (c:gh Δ z b.toList) (h0:0<z.length) (m:Nat):gh Δ (yT m z) ((Array.range (m*z.length)).map λi=>b[i % b.size]!).toList:=by
 have hlen:=c.length;simp only[Rp]at hlen;refine gh.MJ (by simp[zV]) λi v hi=>?_;rw[NQ]at hi;by_cases h:i<m*z.length
 ·rw[if_pos h]at hi;obtain⟨x,hx,d⟩:=c.get _ _ hi;refine⟨x,?_,d⟩;have a:b[i % z.length]? =some x:=by simpa using hx
  rw[hlen]at a;rw[QM];simp[h,getElem!_def,a]
 ·rw[if_neg h]at hi;cases hi
section
variable{Δ:Env}{h:Hp}{w:World}{n:Nat}{t:Tm}{a:Act}
theorem OH (X : TR Δ n t a) {o:Oper} {ob:O} {mk:Nat->V} (hv:(pd o).f t=some (ob,mk)) :
    ∃mo mv,(∀w,(execOp a.eval o).run P0 w = .ok (.value (mv w.heap.size)) (w.alloc mo))/\Made Δ ob mk mo mv:=by
  obtain⟨dst,op,ty,pos,af,gd⟩:=o
  cases op with
  | alloc e=>
    simp only[pd]at hv;split at hv
    ·rename_i z Q
     obtain⟨y,A,C,_⟩:=ym Q;refine⟨_,_,λw=>lQ (x:= .pointer (some ⟨w.heap.size,0,none⟩)) ?_,QY (C Δ) hv⟩;simp[Instr.alloc,A,newVar,newRow]
    ·cases hv
  | box e x=>
    simp only[pd,fj]at hv;obtain⟨v,R,P⟩:=hv;refine⟨_,_,λw=>lQ (x:= .pointer (some ⟨w.heap.size,0,none⟩)) ?_,QY (CZ X R) P⟩
    simp[Instr.box,newVar,newRow]
  | buildSlice S len parts=>
    simp only[pd]at hv;split at hv
    ·rename_i s I
     have hu:=yz I;split at hv
     ·rename_i size jr z he
      obtain⟨hs,_,Q,T,D,_⟩:=D1 he;obtain⟨y,A,C,_⟩:=ym Q;split at hv
      ·rename_i E
       have aj:len*size<=16777216:=G9 E;simp only[CW,fj,gM]at hv;obtain⟨ps,R,cs,P,_,J⟩:=hv;cases J;have F:=(C Δ).cells;have g:=NL F (by omega) len;have ak:y.cells.size=size:=by have:=F.length;simp only[Rp]at this;omega
       have j:gh Δ (yT len z.cells) ((Array.range (len*size)).map λi=>(if len*size=0 then(#[]:Array Value) else y.cells)[i % (if len*size=0 then(#[]:Array Value) else y.cells).size]!).toList:=by
         by_cases h0:len*size=0
         ·rw[if_pos h0,h0]
          have:len=0:=by rcases Nat.mul_eq_zero.1 h0 with h|h <;> omega
          subst this;simp[yT];exact .nil
         ·rw[if_neg h0];rw[D]at g;exact g
       obtain⟨mR,Y,hr⟩:=Jh (BY X R) j P;refine⟨.cells mR s,λb=> .slice (some ⟨b,0,none⟩) len len,λw=>lQ (w:=w) (x:= .slice (some ⟨w.heap.size,0,none⟩) len len) ?_,?_⟩
       ·have B:(parts.map λ(x:Nat×Operand)=>(x.1,a.eval x.2)).toList=parts.toList.map λx=>(x.1,a.eval x.2):=by simp
        have aa:¬(len*size>2 ^ 24):=by omega
        have U:(if len*size=0 then(pure #[]:Sem (Array Value)) else do pure (<-zeroValue s).cells).run P0 w = .ok (if len*size=0 then(#[]:Array Value) else y.cells) w:=by
          by_cases h0:len*size=0
          ·rw[if_pos h0,if_pos h0];rfl
          ·rw[if_neg h0,if_neg h0];simp[A]
        simp only[Instr.buildSlice,pB,fG hu,uJ hs,oD,Sem.run_ite];rw[if_neg aa];simp only[DW,oD,pB];clear j U;by_cases h0:len*size=0
        ·simp only[if_pos h0]at Y⊢
         rw[B];have K:Instr.fill (λi=>some (i*size,size)) (Array.map (λx=>(#[]:Array Value)[x % (#[]:Array Value).size]!) (Array.range (len*size))) (List.map (λx=>(x.1,a.eval x.2)) parts.toList)=some mR:=Y;rw[K];rfl
        ·simp only[if_neg h0,A,oD]at Y⊢
         rw[B];have K:Instr.fill (λi=>some (i*size,size)) (Array.map (λx=>y.cells[x % y.cells.size]!) (Array.range (len*size))) (List.map (λx=>(x.1,a.eval x.2)) parts.toList)=some mR:=Y;rw[K];rfl
       ·intro l b Z
        have L:=hr.length;simp only[Rp]at L;have al:cs.length=len*size:=by
          have h5:∀{place:Nat->Option (Nat×Nat)} {ps:List (Nat×V)} {c c':List V},Bn place c ps=some c'->c'.length=c.length:=by
            intro place ps
            induction ps with
            |nil=>intro c c' h;simp[Bn]at h;rw[h]
            | cons p ps ih=>
              intro c c' h;simp only[Bn,fj,gM]at h;obtain⟨q,_,_,am,h6,h7⟩:=h;rw[ih h7,(HC h6).1]
          rw[h5 P,zV,D]
        have E:=Env.xe (d:=⟨b,0,size,cs.length,mR.size,false,0⟩) Z;refine⟨⟨b,0,size,cs.length,mR.size,false,0⟩,rfl,⟨rfl,rfl,rfl,rfl,λ_=>?_⟩,?_⟩
        ·refine z7 rfl rfl (VH (by first|(simpa using hc.length)|(simpa using hr.length))) λi u hi=>?_
         obtain⟨x,hx,M⟩:=hr.get i u hi;exact⟨x,by simpa using hx,M.mono E⟩
        ·refine fI.slice l 0 len len 0 ⟨b,0,size,cs.length,mR.size,false,0⟩ (Env.tP _ _ _) rfl (iW _) (.inl ⟨rfl,?_,?_⟩)
         ·show cs.length<=0+len*size;omega
         ·show 0+0+len*size<=mR.size;omega
      ·cases hv
     ·cases hv
    ·cases hv
  | makeSlice S m c=>
    simp only[pd]at hv;split at hv
    ·rename_i s I
     have hu:=yz I;split at hv
     ·rename_i size jr z he
      obtain⟨hs,N,Q,T,D,_⟩:=D1 he;obtain⟨y,A,C,i,hi,an⟩:=ym Q;simp only[fj]at hv;obtain⟨mv,R,cv,P,J⟩:=hv;have hm:=CZ X R;have hc:=CZ X P;unfold gR at J;split at J
      ·rename_i G c'
       simp only[gM]at J;obtain⟨h4,h5,h6,h7⟩:=J;cases h7;have ab:G<=c':=G9 h4;have ao:c'*jr<=281474976710656:=G9 h5;have ac:c'<=1099511627776:=G9 h6;have ae:i.bytes=jr:=by
         unfold WG at N;rw[fj]at N;obtain⟨i',W,hb⟩:=N;rw[hi]at W;cases W;simpa using hb
       have F:=(C Δ).cells;have g:=NL F (by omega) c';rw[D]at g;have ag:a.eval m = .int .i64 (G:Int):=by
         generalize a.eval m=x at hm;cases hm;rfl
       have ah:a.eval c = .int .i64 (c':Int):=by
         generalize a.eval c=x at hc;cases hc;rfl
       have wr:∀k:Nat,k<=1099511627776->IntKind.i64.wrap (k:Int)=k:=λk hk=>by
         simp[IntKind.wrap,IntKind.bits,IntKind.signed];omega
       refine⟨.cells ((Array.range (c'*size)).map λi=>y.cells[i % y.cells.size]!) s,λb=> .slice (some ⟨b,0,none⟩) G c',λw=>lQ (w:=w) (x:= .slice (some ⟨w.heap.size,0,none⟩) G c') ?_,?_⟩
       ·rw[ag,ah]
        have e1:((i.bytes:Int)*(c':Int)>2 ^ 48)=False:=by
          rw[ae];have:(jr:Int)*(c':Int)=((c'*jr:Nat):Int):=by rw[Nat.mul_comm];simp
          rw[this];simp;omega
        have j:(if c'*size=0 then(pure #[]:Sem (Array Value)) else do pure (<-zeroValue s).cells).run P0 w = .ok (if c'*size=0 then(#[]:Array Value) else y.cells) w:=by
          by_cases h0:c'*size=0
          ·rw[if_pos h0,if_pos h0];rfl
          ·rw[if_neg h0,if_neg h0];simp[A]
        have H:((Array.range (c'*size)).map λi=>(if c'*size=0 then(#[]:Array Value) else y.cells)[i % (if c'*size=0 then(#[]:Array Value) else y.cells).size]!)=((Array.range (c'*size)).map λi=>y.cells[i % y.cells.size]!):=by
          by_cases h0:c'*size=0
          ·rw[h0];simp
          ·rw[if_neg h0]
        have c1:¬((c':Int)<0):=by omega
        have c2:¬((G:Int)<0):=by omega
        have c3:¬((G:Int)>(c':Int)):=by omega
        simp only[Instr.makeSlice,pB,fG hu,oD,asInt,asIntOf,DW,typeInfo,run_program,hi,wr G (by omega),wr c' ac,e1,c1,c2,c3,decide_false,Bool.or_false,Li,if_false,run_askRoom,uJ hs,Int.toNat_natCast];clear j;by_cases h0:c'*size=0
        ·simp only[if_pos h0,newRow,run_newObj,pB,DW,oD]at H⊢
         rw[H];rfl
        ·simp only[if_neg h0,A,newRow,run_newObj,pB,DW,oD]
         rfl
       ·intro l b Z
        have L:=g.length;simp only[Rp]at L;have ai:(yT c' z.cells).length=c'*size:=by rw[zV,D]
        have E:=Env.xe (d:=⟨b,0,size,(yT c' z.cells).length,c'*size,false,0⟩) Z;refine⟨⟨b,0,size,(yT c' z.cells).length,c'*size,false,0⟩,rfl,⟨rfl,rfl,rfl,rfl,λ_=>?_⟩,?_⟩
        ·refine z7 (by simp) rfl (VH ai) λi u hi=>?_
         obtain⟨x,hx,M⟩:=g.get i u hi;exact⟨x,by rw[QM]at hx;exact hx,M.mono E⟩
        ·refine fI.slice l 0 G c' 0 ⟨b,0,size,(yT c' z.cells).length,c'*size,false,0⟩ (Env.tP _ _ _) rfl ab (.inl ⟨rfl,?_,?_⟩)
         ·show(yT c' z.cells).length<=0+c'*size;omega
         ·show 0+0+c'*size<=c'*size;omega
      ·cases J
     ·cases hv
    ·cases hv
  | makeMap S r=>
    cases r with
    | none=>
      simp only[pd]at hv;split at hv
      ·cases hv
       refine⟨.map #[] 0,λb=> .map (some b),λw=>lQ (x:= .map (some w.heap.size)) (by simp[Instr.makeMap]),?_⟩;intro l b Z;exact⟨⟨b,0,0,0,0,false,1⟩,rfl,⟨rfl,rfl,rfl,#[],rfl,.nil⟩,fI.map l ⟨b,0,0,0,0,false,1⟩ (Env.tP _ _ _)⟩
      ·cases hv
    |some _=>cases hv
  |_=>cases hv
end
