/- Parts. -/
import Derived.Test.YtloecllhljfidaaGreatDoorM01
import Derived.Laws.Pointers
import Derived.Laws.StructEq
import Derived.Laws.Strings2
import Derived.Laws.IdiomStrings
set_option maxHeartbeats 4000000
namespace Go.Proofs.YtloecllhljfidaaGreatDoor.Hx
variable{xv:Value}{v:V}{qY:Array Value}{k:IntKind}{cs:List V}{t:Nat}{b:Bool}{p:PF}{lo:Option V}{kv:Value}{w:World}{l m off:Nat}{q:PF}{z:V}
inductive z6 (Δ:Env):List (V×V×Nat)->List MapEntry->Prop
 |nil:z6 Δ [] []
 | cons (k v:V) (n:Nat) (e:MapEntry) (b:List (V×V×Nat)) (a:List MapEntry) (hk:fZ Δ k e.key) (hv:fZ Δ v e.val) (hb:e.born=n)
   (hs:z6 Δ b a):z6 Δ ((k,v,n)::b) (e::a)
theorem z6.mono{Δ d:Env} (b:Δ.le d) {c:List (V×V×Nat)} {a:List MapEntry} (h:z6 Δ c a):z6 d c a:=by
 induction h with
 |nil=>exact .nil
 |cons k v n e c a hk hv hb _ f=>exact .cons k v n e c a (hk.mono b) (hv.mono b) hb f
def K8(Δ:Env) (d:D) (cs:List V) (ob:Option Obj):Prop:=∃c e fr,ob=some (.cells c e fr)/\c.size=d.asz/\(d.ro=false->fr.1=fr.2\/d.asz<=fr.1)/\d.base+cs.length<=d.asz/\∀i v,cs[i]? =some v->∃x,c[d.base+i]? =some x/\fZ Δ v x
def TT(Δ:Env) (d:D) (o:O) (ob:Option Obj):Prop:=match o with
 | .cells _ sz live ro cs=>d.kind=0/\d.sz=sz/\d.n=cs.length/\d.ro=ro/\(live=true->K8 Δ d cs ob)
 | .map c a=>d.kind=1/\d.ro=false/\d.base=0/\∃b,ob=some (.map b a)/\z6 Δ c b.toList
def O.live:O->Bool
 | .cells _ _ live _ _=>live
 |_=>true
def Dz(Δ:Env)(w:World):Prop:=∀g c,(g,c)∈zfp->(∃e fr,w.heap[g]? =some (.cells c e fr))/\∀l d,Δ l=some d->d.ro=false->d.b≠g
structure WR (Δ:Env) (h:Hp) (w:World):Prop where
 fresh:∀l d,Δ l=some d->l<h.next
 nJ:∀l d,Δ l=some d->d.b<w.heap.size
 obj:∀l d,Δ l=some d->∃o,h.get l=some o/\TT Δ d o w.heap[d.b]?
 apart:∀l a d d' o c,Δ l=some d->Δ a=some d'->l≠a->h.get l=some o->h.get a=some c->o.live=true->c.live=true->
  (d.ro=false\/d'.ro=false)->d.b≠d'.b
 JN:∀g o,g<P0.globals.size->h.get g=some o->∃d,Δ g=some d/\d.b=g/\d.base=0
 zV:P0.globals.size<=h.next
 V9:Dz Δ w
inductive Ms (Δ:Env):List (Nat×List V)->List Deferred->Prop
 |nil:Ms Δ [] []
 | cons (g:Nat) (args:List V) (a ie:Array Value) (l:List (Nat×List V)) (b:List Deferred) (c:gW Δ args (ie++a).toList) (d:Ms Δ l b) :
   Ms Δ ((g,args)::l) ({target:= .fn (.func g) a,args:=ie}::b)
theorem Ms.mono{Δ d:Env} (b:Δ.le d) {l:List (Nat×List V)} {a:List Deferred} (h:Ms Δ l a):Ms d l a:=by
 induction h with
 |nil=>exact .nil
 |cons g args c ie l a e _ f=>exact .cons g args c ie l a (e.mono b) f
structure TR (Δ:Env) (n:Nat) (t:Tm) (a:Act):Prop where
 size:a.tmps.size=n
 rel:∀i,fZ Δ (j5 t i) (a.tmps.getD i undef)
 ds:Ms Δ t.ds a.defers
theorem K8.mono{Δ b:Env} (a:Δ.le b) {d:D} {cs:List V} {ob:Option Obj} (h:K8 Δ d cs ob):K8 b d cs ob:=by
 let⟨c,e,fr,f,g,j,k,l⟩:=h
 exact⟨c,e,fr,f,g,j,k,λi v hi=>let⟨x,hx,hr⟩:=l i v hi;⟨x,hx,hr.mono a⟩⟩
theorem TT.mono{Δ k:Env} (a:Δ.le k) {d:D} {o:O} {ob:Option Obj} (h:TT Δ d o ob):TT k d o ob:=by
 cases o with
 | cells e sz live ro cs=>
   let⟨b,c,f,g,i⟩:=h
   exact⟨b,c,f,g,λl=>(i l).mono a⟩
 | map m j=>
   let⟨b,c,f,es',g,i⟩:=h
   exact⟨b,c,f,es',g,i.mono a⟩
theorem TR.mono{Δ c:Env}(b:Δ.le c){n:Nat}{t:Tm}{a:Act}(h:TR Δ n t a):TR c n t a:=⟨h.size,λi=>(h.rel i).mono b,h.ds.mono b⟩
theorem hH{d:TypeDesc}(h:P0.underlying t=some d):(underlying t).run P0 w = .ok d w:=by simp[underlying,h]
theorem JL{n:Nat} (h:El t=some n):∃i,P0.info? t=some i/\i.size=n:=by
 grind[El,fR]
theorem AH{n:Nat}  (h:El t=some n):(sizeOf t).run P0 w = .ok n w:=by
 obtain⟨i,hi,rfl⟩:=JL h
 simp_all[sizeOf,typeInfo]
theorem M5   (h:U8 t=some b):(isAgg t).run P0 w = .ok b w:=by
 unfold U8 at h;split at h
 ·simp_all[isAgg,hH]
 ·simp_all[isAgg,hH]
 ·simp_all[isAgg,Lv,hH]
 ·cases h
theorem Dl  (h:zeroV t=some z):∃a,(∀w,(zeroValue t).run P0 w = .ok a w)/\(∀Δ,fZ Δ z a)/\∃i,P0.info? t=some i/\i.zero=some a:=by
 unfold zeroV at h;simp[fR]at h
 let⟨i,hi,a,hz,hv⟩:=h
 exact⟨a,by simp_all[zeroValue,typeInfo],by grind[HR],i,hi,hz⟩
theorem uR(b o n:Nat):(⟨b,o,none⟩:Addr).add n=⟨b,o+n,none⟩:=by
 grind[Addr.add]
section
variable{Δ:Env}{h:Hp}{w:World}{n:Nat}{t:Tm}{a:Act}
theorem Hy(b:TR Δ n t a) {x:Operand} {v:V} (hv:(Pg x).f t=some v):fZ Δ v (a.eval x):=by
 cases x with
 |tmp i=>simp[Pg]at hv;cases hv;exact b.rel i
 | const c=>
   simp[Pg]at hv;split at hv
   ·rename_i y d;cases hv;exact HR Δ 8 c _ d
   ·cases hv
 |global g=>grind[Pg]
 |func f=>simp[Pg]at hv;cases hv;exact .func f [] [] #[] #[] .nil .nil
theorem yO(e:WR Δ h w) (b:TR Δ n t a) {x:Operand} {v:V} (hv:(Ab x).f t h=some v):fZ Δ v (a.eval x):=by
 cases x with
 | global g=>
   unfold Ab at hv
   cases Nr:Nat.blt g P0.globals.size with
   | true=>
     simp only[Nr,fR]at hv
     let⟨o,ho,hv⟩:=hv
     cases hv;have j:g<P0.globals.size:=by rw[<-UC];exact Nr
     let⟨d,hd,hb,hba⟩:=e.JN g o j ho
     have:=fZ.ptr g 0 d hd;rw[hb,hba]at this
     exact this
   |false=>simp_all
 |tmp i=>exact Hy b hv
 |const c=>exact Hy b hv
 |func f=>exact Hy b hv
theorem Lh(b:TR Δ n t a):∀{l:List Operand} {vs:List V},NP t l=some vs->gW Δ vs (l.map a.eval)
 |[],vs,hv=>by simp[NP]at hv;subst hv;exact .nil
 | x::l,vs,hv=>by
   simp[NP,fR]at hv
   let⟨v,c,vs',d,e⟩:=hv
   cases e;exact .cons _ _ _ _ (Hy b c) (Lh b d)
inductive ZT (Δ:Env):List (Nat×V)->List (Nat×Value)->Prop
 |nil:ZT Δ [] []
 |cons (i:Nat) (v:V) (a:Value) (l:List (Nat×V)) (b:List (Nat×Value)) (hv:fZ Δ v a) (hs:ZT Δ l b):ZT Δ ((i,v)::l) ((i,a)::b)
theorem Ju(b:TR Δ n t a):∀{l:List (Nat×Operand)} {vs:List (Nat×V)},yf t l=some vs->ZT Δ vs (l.map λx=>(x.1,a.eval x.2))
 |[],vs,hv=>by simp[yf]at hv;subst hv;exact .nil
 | x::l,vs,hv=>by
   simp[yf,fR]at hv
   let⟨v,c,vs',d,e⟩:=hv
   cases e;exact .cons _ _ _ _ _ (Hy b c) (Ju b d)
theorem WL(a:WR Δ h w) {l:Nat} {d:D} (f:Δ l=some d) {e sz:Nat} {ro:Bool} {cs:List V} (g:h.get l=some (.cells e sz true ro cs))
  {i:Nat} {v:V} (hi:cs[i]? =some v):∃x,w.cell? ⟨d.b,d.base+i,none⟩=some x/\fZ Δ v x:=by
 let⟨o,ho,hr⟩:=a.obj l d f
 rw[g]at ho;cases ho
 let⟨_,_,_,_,hc⟩:=hr
 let⟨c,e',fr,j,_,_,_,k⟩:=hc rfl
 grind[World.cell?]
theorem Lu(f:WR Δ h w) {l:Nat} {d:D} (g:Δ l=some d) {off m:Nat} {cs:List V} (hv:Lo h l off m=some cs) :
  ∃a,(loadCells ⟨d.b,d.base+off,none⟩ m).run P0 w = .ok a w/\gW Δ cs a.toList:=by
 unfold Lo at hv;rw[mQ]at hv
 let⟨e,sz,live,ro,all,hg,hv⟩:=hv
 rw[jf]at hv;obtain⟨rfl,hv⟩:=hv
 let⟨hlen,hget⟩:=sub_eq hv
 have c:∀j,j<m->∃x v,w.cell? ⟨d.b,d.base+off+j,none⟩=some x/\cs[j]? =some v/\fZ Δ v x:=by grind[WL]
 refine⟨_,run_loadCells w ⟨d.b,d.base+off,none⟩ m (λj=>(w.cell? ⟨d.b,d.base+off+j,none⟩).getD undef) (λj i=>?_),?_⟩
 ·grind[uR]
 grind[gW.Rf,jo]
theorem ZI(a:WR Δ h w) {l:Nat} {d:D} (c:Δ l=some d) {off:Nat} {v:V} (hv:ld1 h l off=some v) :
  ∃x,w.cell? ⟨d.b,d.base+off,none⟩=some x/\fZ Δ v x:=by
 unfold ld1 at hv;rw[mQ]at hv
 let⟨e,sz,live,ro,all,hg,hv⟩:=hv
 rw[jf]at hv;obtain⟨rfl,hv⟩:=hv;exact WL a c hg (V2 hv)
theorem Sq(e:WR Δ h w) {ty:Nat} {p:PF} {xv:Value} (hp:∀v,p.f t h=some v->fZ Δ v xv) {v:V} (hv:(Of ty p).f t h=some v) :
  ∃x,(Instr.loadAt ty xv).run P0 w = .ok x w/\fZ Δ v x:=by
 unfold Of at hv;split at hv
 ·rename_i g;split at hv
  ·rename_i m j;simp[fR,Bc]at hv;obtain⟨av,a,l,off,rfl,cs,b,i⟩:=hv;cases i
   cases hp _ a with
   | ptr _ _ d c=>
     let⟨arr,hr,hrel⟩:=Lu e c b
     exact⟨.agg arr,by simp_all[Instr.loadAt,Instr.sureAddr,loadVar,M5,AH],.agg _ _ hrel⟩
  ·cases hv
 ·rename_i g;simp[fR,Bc]at hv;obtain⟨av,a,l,off,rfl,b⟩:=hv
  cases hp _ a with
  | ptr _ _ d c=>
    let⟨x,hx,hrel⟩:=ZI e c b
    simp_all[Instr.loadAt,Instr.sureAddr,loadVar,M5]
 ·cases hv
theorem Mv:∀fs pl,placesOf fs=some pl->fs.mapM (λf=>(P0.info? f.type).map λi=>(f.offset,i.size))=some pl
 |[],pl,h=>by grind[placesOf]
 | f::fs,pl,h=>by
   simp[placesOf,fR]at h
   let⟨m,a,l,b,c⟩:=h
   cases c;obtain⟨i,hi,rfl⟩:=JL a;simp[ hi,Mv fs l b]
theorem Qa:∀(xs:List Value) k off (c:Array Value),off+k+xs.length<=c.size->
  ∀i,((xs.zipIdx k).foldl (λcs p=>cs.setIfInBounds (off+p.2) p.1) c)[i]? =if off+k<=i/\i<off+k+xs.length then xs[i-(off+k)]? else c[i]?
 | [],k,off,c,_,i=>by
   simp_all[if_neg,List.length_nil]
 | x::xs,k,off,c,hle,i=>by
   simp[List.zipIdx_cons,List.foldl_cons];simp[VS]at hle;rw[Qa xs (k+1) off _ (by simp;omega)]
   grind
theorem QV{place:Nat->Option (Nat×Nat)}:∀{o:List (Nat×V)} {ps':List (Nat×Value)} {cells cs:List V} {a:Array Value},ZT Δ o ps'->gW Δ cells a.toList->
  FT place cells o=some cs->∃qY,Instr.fill place a ps' = some qY/\gW Δ cs qY.toList
 |_,_,cells,cs,a,.nil,hc,hf=>by simp[FT]at hf;subst hf;exact⟨a,rfl,hc⟩
 | _,_,cells,cs,a,.cons i v v' l l' hv hs,hc,hf=>by
   simp only[FT,fR,jf]at hf
   let⟨⟨off,size⟩,A,q,mid,r,s⟩:=hf
   let⟨hl,hle,hget⟩:=Me r
   have d:=hv.cells;have t:v'.cells.size=size:=by
     have:=d.length;rw[Iw q]at this;simpa using this.symm
   have k:=hc.length;simp[wBh]at k;have u:v.cells.length=v'.cells.size:=by simpa using d.length
   have w:¬(v'.cells.size≠size\/off+v'.cells.size>a.size):=by
     rintro(h|h)
     ·omega
     ·omega
   have f:gW Δ mid (v'.cells.zipIdx.foldl (λcs (c,j)=>cs.setIfInBounds (off+j) c) a).toList:=by
     have b:=Qa v'.cells.toList 0 off a (by simp;omega);have e:(v'.cells.zipIdx.foldl (λcs (c,j)=>cs.setIfInBounds (off+j) c) a)=((v'.cells.toList.zipIdx 0).foldl (λcs p=>cs.setIfInBounds (off+p.2) p.1) a):=by
       rw[<-Array.foldl_toList];simp
     rw[e];generalize hF:((v'.cells.toList.zipIdx 0).foldl (λcs p=>cs.setIfInBounds (off+p.2) p.1) a)=F at b;have z:F.size=a.size:=by
      apply Nat.le_antisymm
      ·rcases Ub a.size F.size with m|n
       ·have:=b a.size
        grind
       omega
      ·rcases Ub F.size a.size with m|n
       ·have:=b F.size
        grind
       omega
     refine gW.Rf (by simp_all) λj x hx=>?_;rw[hget j]at hx;have g:=b j;simp only[ wBh]at g;rw[wBI,g];by_cases hin:off<=j/\j<off+v.cells.length
     ·rw[if_pos hin]at hx
      rw[if_pos (by omega)];exact d.get _ _ hx
     ·rw[if_neg hin]at hx
      rw[if_neg (by omega)]
      let⟨y,hy,hr⟩:=hc.get _ _ hx
      simp_all
   let⟨qY,hf',hr⟩:=QV hs f s
   simp_all[Instr.fill,if_neg]
theorem YA(e:TR Δ n t a) {ty:Nat} {parts:List (Nat×Operand)} {v:V} (hv:(Ka ty parts).f t h=some v) :
  ∃x,(Instr.build ty (parts.map λx=>(x.1,a.eval x.2)).toArray).run P0 w = .ok x w/\fZ Δ v x:=by
 unfold Ka at hv;split at hv
 ·rename_i z g
  let⟨zv,_,hzr,i,hi,hzi⟩:=Dl g
  have d:=(hzr Δ).cells;split at hv
  ·rename_i b m;split at hv
   ·rename_i c hp;simp[fR]at hv
    let⟨ps,j,cs,k,l⟩:=hv
    cases l
    let⟨qY,hf,hr⟩:=QV (Ju e j) d k
    refine⟨.agg qY,?_,.agg _ _ hr⟩
    simp_all[run_build,Program.built,Mv]
   ·cases hv
  ·cases hv
 ·cases hv
end
theorem rT(k:IntKind) (n:Int):lO k n=k.wrap n:=by
 unfold lO
 cases n with
 |negSucc m=>rfl
 | ofNat m=>
   simp only;split
   ·rename_i hb
    rw[UC]at hb
    grind[IntKind.wrap,IntKind.bits,IntKind.signed]
   ·rfl
section
variable{Δ:Env}{h:Hp}{w:World}{n:Nat}{t:Tm}{a:Act}
theorem wU{s:Sem Value}{x:Value}{w':World}(h:s.run P0 w = .ok x w'):(do pure (Next.value (<-s)):Sem Next).run P0 w = .ok (.value x) w':=by simp[h]
theorem Qr{k':IntKind}(h:UG k k' = true):k=k':=by cases k <;> cases k' <;> first|rfl|cases h
theorem zaY{op:BinOp}  {x y:Int}  (ty:Nat) (w:World) (hs:Xf op=false) (hv:hint op k x y=some v) :
  ∃r,(binOp op ty (.int k x) (.int k y)).run P0 w = .ok r w/\∀Δ,fZ Δ v r:=by
 cases op with
 |shl=>cases hs
 |shr=>cases hs
 |add=>simp[hint]at hv;cases hv;rw[rT];exact⟨_,by simp[binOp,Op.intArith],λΔ=> .int _ _⟩
 |sub=>simp[hint]at hv;cases hv;rw[rT];exact⟨_,by simp[binOp,Op.intArith],λΔ=> .int _ _⟩
 |mul=>simp[hint]at hv;cases hv;rw[rT];exact⟨_,by simp[binOp,Op.intArith],λΔ=> .int _ _⟩
 | quo=>
   have b:y≠0:=by rintro rfl;simp[hint]at hv
   have a:some (V.int k (lO k (x.tdiv y)))=some v:=by
     rw[<-hv];unfold hint;simp only;split
     ·simp_all
     ·rfl
   cases a;rw[rT];exact⟨_,by simp_all[binOp,Op.intDiv],λΔ=> .int _ _⟩
 | rem=>
   have b:y≠0:=by rintro rfl;simp[hint]at hv
   have a:some (V.int k (x.tmod y))=some v:=by
     rw[<-hv];unfold hint;simp only;split
     ·simp_all
     ·rfl
   cases a;exact⟨_,by simp_all[binOp,Op.intDiv],λΔ=> .int _ _⟩
 |eql=>simp[hint]at hv;cases hv;exact⟨_,by simp[binOp,Op.intCmp],λΔ=> .bool _⟩
 |neq=>simp[hint]at hv;cases hv;exact⟨_,by simp[binOp,Op.intCmp],λΔ=> .bool _⟩
 |lss=>simp[hint]at hv;cases hv;exact⟨_,by simp[binOp,Op.intCmp],λΔ=> .bool _⟩
 |leq=>simp[hint]at hv;cases hv;exact⟨_,by simp[binOp,Op.intCmp],λΔ=> .bool _⟩
 |gtr=>simp[hint]at hv;cases hv;exact⟨_,by simp[binOp,Op.intCmp],λΔ=> .bool _⟩
 |geq=>simp[hint]at hv;cases hv;exact⟨_,by simp[binOp,Op.intCmp],λΔ=> .bool _⟩
 |_=>cases hv
theorem Yb{op:BinOp} {k':IntKind} {x y:Int}  (ty:Nat) (w:World) (hv:Vv op k x y=some v) :
  ∃r,(binOp op ty (.int k x) (.int k' y)).run P0 w = .ok r w/\∀Δ,fZ Δ v r:=by
 unfold Vv at hv;split at hv
 ·cases hv
 ·rename_i m;split at hv
  ·cases hv;exact⟨_,by rfl,λΔ=> .int _ _⟩
  ·cases hv;exact⟨_,by rfl,λΔ=> .int _ _⟩
  ·cases hv
theorem zaZ{op:BinOp} {x y:ByteArray}  (ty:Nat) (w:World) (hv:zdl op x.data.toList y.data.toList=some v) :
  ∃r,(binOp op ty (.string x) (.string y)).run P0 w = .ok r w/\∀Δ,fZ Δ v r:=by
 have hb:(binOp op ty (.string x) (.string y))=Op.stringOp op x y:=by cases op <;> rfl
 rw[hb];have a:=ByteArray.toList_eq x;have b:=ByteArray.toList_eq y;cases op <;> simp[zdl]at hv <;> try (cases hv;done)
 all_goals
  cases hv;refine⟨_,by simp_all[Op.stringOp],λΔ=> .bool _⟩
theorem Jw{op:BinOp} {ty:Nat} {X Y:Operand} {x y:Value} (w:World) (a:x≠ .nilIface) (b:∀c,x≠ .agg c) :
  (eqGuard op ty X Y x y).run P0 w = .ok () w:=by
 cases op <;> unfold eqGuard <;> dsimp only <;> simp[ Bool.not_false] <;> first
  |rfl
  |simp_all
theorem zbt{d:TypeDesc} {ty:Nat} {x y:V} {a:Value}  (w:World) (f:P0.underlying ty=some d) (hx:fZ Δ x xv) (g:fZ Δ y a)
  (hv:zdL d x y=some b):(Op.equal ty xv a).run P0 w = .ok b w/\(∀op X Y,(eqGuard op ty X Y xv a).run P0 w = .ok () w)/\
   (binOp .eql ty xv a)=(do pure (.bool (<-Op.equal ty xv a)))/\(binOp .neq ty xv a)=(do pure (.bool (!(<-Op.equal ty xv a)))):=by
 unfold zdL at hv;split at hv
 ·cases hv;cases hx;cases g;have c:∀e x y,(Op.equalIn (e+1) ty (.bool x) (.bool y)).run P0 w = .ok (x == y) w:=λe x y=>by
   simp only[Op.equalIn,Lv,hH f];rfl
  exact⟨c 9999 _ _,λop X Y=>Jw w (by simp) (by simp),rfl,rfl⟩
 ·cases hv
theorem zcc{op:BinOp} {ty:Nat} {X Y:Operand} {x y:V} {a:Value} (w:World) (hx:fZ Δ x xv) (g:fZ Δ y a) (hv:ez op ty x y=some v) :
  ∃r,(do eqGuard op ty X Y xv a;binOp op ty xv a:Sem Value).run P0 w = .ok r w/\fZ Δ v r:=by
 unfold ez at hv;split at hv
 ·rename_i k p k' q;cases hx;cases g;have i:=Jw (op:=op) (ty:=ty) (X:=X) (Y:=Y) (y:= .int k' q) w (x:= .int k p) (by simp) (by simp);split at hv
  ·let⟨r,hr,hrel⟩:=Yb (k':=k') ty w hv
   simp_all
  ·rename_i hs;rw[jf]at hv;obtain⟨hk,hv⟩:=hv;obtain rfl:=Qr hk
   let⟨r,hr,hrel⟩:=zaY ty w hs hv
   simp_all
 ·cases hx with|str xs=>cases g with|str ys=>
  have i:=Jw (op:=op) (ty:=ty) (X:=X) (Y:=Y) (y:= .string ys) w (x:= .string xs) (by simp) (by simp)
  let⟨r,hr,hrel⟩:=zaZ ty w hv
  simp_all
 ·have f:∀e,Yk ty e x y=some v->∃b,(Op.equal ty xv a).run P0 w = .ok b w/\(∀op X Y,(eqGuard op ty X Y xv a).run P0 w = .ok () w)/\
    (binOp .eql ty xv a)=(do pure (.bool (<-Op.equal ty xv a)))/\(binOp .neq ty xv a)=(do pure (.bool (!(<-Op.equal ty xv a))))/\v = .bool (Bool.rec (motive:=λ_=>Bool) b (!b) e):=by
   intro e c;unfold Yk zds at c;rw[fR]at c
   let⟨b,hb,c⟩:=c
   unfold zav at hb;split at hb
   ·rename_i d l
    let⟨j,h,m,n⟩:=zbt w l hx g hb
    simp_all
   ·cases hb
  split at hv
  ·obtain⟨b,j,h,m,_,rfl⟩:=f false hv;have i:=h .eql X Y;exact⟨.bool b,by simp_all,.bool b⟩
  ·obtain⟨b,j,h,_,n,rfl⟩:=f true hv;exact⟨.bool (!b),by simp_all,.bool _⟩
  ·cases hv
theorem zd3{op:UnOp} {x:V}  (w:World) (hx:fZ Δ x xv) (hv:pK op x=some v):∃r,(Op.unary op xv).run P0 w = .ok r w/\fZ Δ v r:=by
 unfold pK at hv;split at hv
 ·cases hv;cases hx;rw[rT];exact⟨_,rfl,.int _ _⟩
 ·cases hv;cases hx;exact⟨_,rfl,.bool _⟩
 ·cases hv
theorem zas{a dst:Nat}    (w:World) (hp:∀v,p.f t h=some v->fZ Δ v xv) (hv:(Qb a dst p).f t h=some v) :
  ∃r,(convert a dst xv).run P0 w = .ok r w/\fZ Δ v r:=by
 unfold Qb at hv;split at hv
 ·rename_i k' k hs e;rw[fR]at hv
  let⟨x,c,b⟩:=hv
  have d:=hp _ c;split at b
  ·cases b;cases d;rw[rT];exact⟨_,by simp_all[convert,hH,Conv.intToInt],.int _ _⟩
  ·cases b
 ·cases hv
theorem zat{ty:Nat}     (w:World) (hc:gW Δ cs qY.toList) (hv:zaE ty cs off=some v) :
  ∃r,(part ty qY off).run P0 w = .ok r w/\fZ Δ v r:=by
 unfold zaE at hv
 cases ha:U8 ty with
 |none=>simp_all
 |some b=>cases b with
 | true =>
   simp[ha]at hv
   cases hm:El ty with
   |none=>simp_all
   | some m=>
     simp[hm,fR]at hv
     let⟨l,d,e⟩:=hv
     cases e
     let⟨hl,hg⟩:=sub_eq d
     refine⟨.agg (qY.extract off (off+m)),by simp_all[part,M5,AH],.agg _ _ (gW.Rf ?_ ?_)⟩
     ·have a:=hc.length
      have:∀i,i<m->off+i<cs.length:=by grind
      simp[wBh]at a;simp[ Array.size_extract];rcases Nat.eq_zero_or_pos m with h0|h0
      ·omega
      ·have:=this (m-1) (by omega)
       omega
     ·intro i v hi
      have c:i<m:=by have:=(jo.1 hi).1;omega
      rw[hg i c]at hi
      let⟨x,hx,hr⟩:=hc.get _ _ hi
      simp_all
 | false=>
   simp[ha]at hv
   let⟨x,hx,hr⟩:=hc.get _ _ (V2 hv)
   simp_all[part,M5]
theorem VH{s f:Nat} {a:Field} (h:Sc s f=some a):∃fs,P0.underlying s=some (.struct fs)/\fs[f]? =some a:=by
 grind[Sc]
theorem Pk{s f:Nat}    (w:World) (hp:∀v,p.f t h=some v->fZ Δ v xv) (hv:(sd s p f).f t h=some v) :
  ∃r,(Instr.fieldAt s xv f).run P0 w = .ok r w/\fZ Δ v r:=by
 unfold sd at hv;split at hv
 ·rename_i a b
  let⟨fs,hu,hfd⟩:=VH b
  split at hv
  ·rename_i m c;simp[fR,Bc]at hv;obtain⟨x,e,l,off,rfl,g⟩:=hv;cases g
   cases hp _ e with
   | ptr _ _ d i=>
     refine⟨_,by simp[Instr.fieldAt,hH hu,hfd,Instr.sureAddr,fieldPlace,AH c,uR];rfl,?_⟩;have:=fZ.ptr l (off+a.offset) d i
     grind
  ·cases hv
 ·cases hv
theorem PD{ty:Nat}  {u:Value}  (w:World) (hp:∀v,p.f t h=some v->fZ Δ v xv) (hq:∀v,q.f t h=some v->fZ Δ v u)
  (hv:(rX ty p q).f t h=some v):∃r,(Instr.indexAt ty xv u).run P0 w = .ok r w/\fZ Δ v r:=by
 unfold rX at hv;split at hv
 ·rename_i c e;split at hv
  ·rename_i m g;simp[fR,N9]at hv;obtain⟨x,j,i,k,kd,n,rfl,b⟩:=hv;have hx:=hp _ j;cases hq _ k;split at b
   ·rename_i l off len;rw[jf]at b
    let⟨a,b⟩:=b
    cases b;rw[UC]at a
    cases hx with
    | slice _ _ _ y o d s hk A z=>
      rcases z with⟨rfl,_,_⟩|⟨hc,_⟩
      ·refine⟨_,by simp[Instr.indexAt,asIntOf,hH e,AH g,a,uR];rfl,?_⟩
       have:=fZ.ptr l (off+n*m) d s
       grind
      ·omega
   ·cases b
  ·cases hv
 ·rename_i len c e;split at hv
  ·rename_i m g;simp only[fR,N9,Bc,jf]at hv;obtain⟨x,j,i,k,kd,n,rfl,l,off,rfl,a,b⟩:=hv;cases b;rw[UC]at a;cases hq _ k
   cases hp _ j with
   | ptr _ _ d s=>
     refine⟨_,by simp[Instr.indexAt,asIntOf,hH e,AH g,a,uR,Instr.sureAddr];rfl,?_⟩;have:=fZ.ptr l (off+n*m) d s
     grind
  ·cases hv
 ·cases hv
theorem Yl{ty:Nat}  {d:Value}  (w:World) (hp:∀v,p.f t h=some v->fZ Δ v xv) (hq:∀v,q.f t h=some v->fZ Δ v d)
  (hv:(J7 ty p q).f t h=some v):∃r,(Instr.index ty xv d).run P0 w = .ok r w/\fZ Δ v r:=by
 unfold J7 at hv;split at hv
 ·rename_i k;simp only[fR,N9]at hv;obtain⟨x,g,i,j,kd,e,rfl,a⟩:=hv;have hx:=hp _ g;cases hq _ j;split at a
  ·rw[fR]at a
   let⟨b,hb,a⟩:=a
   cases a
   cases hx with
   | str s=>
     rw[List.head?_drop]at hb;have c:=(jo.1 hb).1;have hs:s[e]? =some b:=by
       rw[getElem?_pos s e c];have:=(jo.1 hb).2;rw[<-this];rfl
     exact⟨.int .u8 b.toNat,by simp_all[Instr.index,asIntOf,hH],.int _ _⟩
  ·cases a
 ·cases hv
end
section
variable{Δ:Env}{h:Hp}{w:World}{n:Nat}{t:Tm}{a:Act}
inductive E9 (Δ:Env):Option V->Option Value->Prop
 |none:E9 Δ none none
 |some (v:V) (a:Value) (h:fZ Δ v a):E9 Δ (some v) (some a)
theorem M9(b:WR Δ h w) (c:TR Δ n t a) {x:Option Operand} {v:Option V} (hv:Ko x t h=some v):E9 Δ v (x.map a.eval):=by
 cases x with
 |none=>simp[Ko]at hv;cases hv;exact .none
 | some x=>
   simp[Ko,fR]at hv
   let⟨y,d,e⟩:=hv
   cases e;exact .some _ _ (yO b c d)
theorem HB{d:Nat}  (hv:hbound d lo=some m):(lo=none/\m=d)\/∃k,lo=some (.int k (.ofNat m)):=by
 unfold hbound at hv;split at hv
 ·simp_all
 ·simp_all
 ·cases hv
theorem Ll {y:Nat} {c:BoundsCode} (w:World) (a:m<=y):(Instr.sliceBound (.int k (.ofNat m)) y c).run P0 w = .ok m w:=by
 simp_all[Instr.sliceBound,asIntOf]
theorem LO{isS:Bool} {len b u:Nat} {hi:Option V} {c d:Option Value} (w:World) (e:E9 Δ lo c) (a:E9 Δ hi d)
  (i:hbound 0 lo=some l) (h:hbound len hi=some u) (f:l<=u) (g:u<=b):(Instr.sliceBounds isS len b c d none).run P0 w = .ok (l,u,b) w:=by
 rcases HB i with⟨rfl,rfl⟩|⟨k,rfl⟩
 ·cases e;rcases HB h with⟨rfl,rfl⟩|⟨k,rfl⟩
  ·cases a;rfl
  ·cases a with|some _ _ hr=>
   cases hr
   grind[Instr.sliceBounds,Lv,YJ,Pd,Ll]
 ·cases e with|some _ _ hr=>
  cases hr;rcases HB h with⟨rfl,rfl⟩|⟨k,rfl⟩
  ·cases a
   grind[Instr.sliceBounds,Lv,YJ,Pd,Ll]
  ·cases a with|some _ _ hr=>
   cases hr;simp only[Instr.sliceBounds,Lv,YJ,Pd,Ll w g,Ll w f]
theorem VJ(I:WR Δ h w) {ty f size:Nat} {x v:V} {xv:Value} {lo hi:Option V} {i j:Option Value} (hx:fZ Δ x xv) (k:E9 Δ lo i) (m:E9 Δ hi j)
  (L:P0.underlying ty=some (.slice f)) (hs:El f=some (size+1)) (hv:iY (Nat.succ size) x lo hi h=some v) :
  ∃r,(Instr.sliceAt ty xv i j none).run P0 w = .ok r w/\fZ Δ v r:=by
 unfold iY at hv;split at hv
 ·rename_i lc off len;rw[mQ]at hv
  let⟨e,sz,live,ro,cs,hg,hv⟩:=hv
  simp only[jf,fR]at hv
  let⟨hsz,l,t,u,y,hlu,c,hv⟩:=hv
  cases hv;have g:=Iw hsz;have p:=MY hlu
  cases hx with
  | slice _ _ _ a o d z hk A B=>
    let⟨ob,hob,hr⟩:=I.obj lc d z
    rw[hg]at hob;cases hob
    let⟨_,hdsz,hdn,_,_⟩:=hr
    have C:u<=a:=by
      rw[OK]at c;rcases c with c|c
      ·exact Gq (MY c) A
      ·have H:off+u*(size+1)<=cs.length:=MY c
       rcases B with⟨_,hb,_⟩|⟨hc,hb⟩
       ·rw[hdsz,<-g]at hb
        have:u*(size+1)<=a*(size+1):=by have e:Nat.succ size=size+1:=rfl;rw[e]at hb;omega
        exact Nat.le_of_mul_le_mul_right this (by omega)
       grind
    have q:=LO (isS:=true) w k m t y p C;have J:l<=a:=by omega
    refine⟨.slice (if a=l then some ⟨d.b,o,none⟩ else some ⟨d.b,o+l*(size+1),none⟩) (u-l) (a-l),?_,?_⟩
    ·simp_all[Instr.sliceAt,Lv,hH,Instr.slice,AH,uR]
    ·have s:a*d.sz=l*d.sz+(a-l)*d.sz:=by rw[<-YF];congr 1;omega
     have K:d.sz=size+1:=by rw[hdsz,<-g]
     split
     ·rename_i D
      refine .slice lc (Nat.add off (Nat.mul l (Nat.succ size))) (Nat.sub u l) (a-l) o d z hk ?_ (.inr ⟨by omega,?_⟩)
      ·simp_all
      grind
     ·rename_i D
      refine .slice lc (Nat.add off (Nat.mul l (Nat.succ size))) (Nat.sub u l) (a-l) (o+l*(size+1)) d z hk ?_ (.inl ?_)
      ·simp_all
      ·show o+l*(size+1)=d.base+(off+l*(size+1))/\d.n<=off+l*(size+1)+(a-l)*d.sz/\d.base+(off+l*(size+1))+(a-l)*d.sz<=d.asz
       rcases B with⟨B,hb,E⟩|⟨hc,hb⟩
       ·rw[K]at s hb E⊢
        omega
       ·omega
 ·simp only[jf,fR]at hv
  let⟨l,t,u,y,A,hu',hv⟩:=hv
  cases hv;have F:=Iw A;have G:=Iw hu';subst F;subst G;cases hx;have q:=LO (isS:=true) w k m t y (iZ _) (iZ _);exact⟨.slice none 0 0,by simp_all[Instr.sliceAt,hH,Instr.slice,AH],.ei⟩
 ·cases hv
theorem UO{ty:Nat} {x:V}  {hi:Option V} {a b:Option Value} (w:World) (hx:fZ Δ x xv) (c:E9 Δ lo a) (d:E9 Δ hi b)
  (h:P0.underlying ty=some .string) (hv:QO x lo hi=some v):∃r,(Instr.sliceAt ty xv a b none).run P0 w = .ok r w/\fZ Δ v r:=by
 unfold QO at hv;split at hv
 ·simp only[jf,fR]at hv
  let⟨l,f,u,g,hlu,hus,hv⟩:=hv
  cases hv
  cases hx with
  | str s=>
    have e:=LO (isS:=false) w c d f g (MY hlu) (MY hus);refine⟨.string (s.extract l u),by simp_all[Instr.sliceAt,hH,Instr.slice],?_⟩;have:=fZ.str (Δ:=Δ) (s.extract l u)
    simp_all
 ·cases hv
theorem YB(b:WR Δ h w) (c:TR Δ n t a) {ty:Nat} {p:PF} {xv:Value} {lo hi:Option Operand} {v:V} (hp:∀v,p.f t h=some v->fZ Δ v xv)
  (hv:(Ml ty p lo hi).f t h=some v):∃r,(Instr.sliceAt ty xv (lo.map a.eval) (hi.map a.eval) none).run P0 w = .ok r w/\fZ Δ v r:=by
 unfold Ml at hv;split at hv
 ·rename_i d;simp[fR]at hv
  let⟨x,e,l,g,u,i,j⟩:=hv
  exact UO w (hp _ e) (M9 b c g) (M9 b c i) d j
 ·rename_i k d;split at hv
  ·rename_i m o;simp[fR]at hv
   let⟨x,e,l,g,u,i,j⟩:=hv
   exact VJ b (hp _ e) (M9 b c g) (M9 b c i) d o j
  ·cases hv
 ·cases hv
theorem L8{ty:Nat} {x y:V} {a:Value}  (hx:fZ Δ x xv) (c:fZ Δ y a) (hv:ET ty x y=some b) :
  (∀f w,(Op.equalIn (f+1) ty xv a).run P0 w = .ok b w)/\(∀d,P0.underlying ty=some d->Instr.sameNow d xv a=some b):=by
 unfold ET at hv;split at hv
 ·rename_i e;split at hv
  ·rw[jf]at hv
   let⟨hk,hv⟩:=hv
   cases hv;obtain rfl:=Qr hk;cases hx;cases c
   grind[run_equalIn_int,Instr.sameNow]
  ·cases hv
 ·rename_i e;split at hv
  ·cases hv;cases hx with|str xs=>cases c <;> grind[run_equalIn_string,ByteArray.toList_eq,Instr.sameNow,beq_toListBytes]
  ·cases hv
 ·rename_i e;split at hv
  ·cases hv;cases hx;cases c
   grind[run_equalIn_bool',Instr.sameNow]
  ·cases hv
 ·cases hv
theorem X1{ty:Nat} (a:FM ty=true):U8 ty=some false:=by
 grind[FM,U8]
theorem LY{ty:Nat}     (w:World) (a:FM ty=true) (hc:gW Δ cs qY.toList) (hv:B6 cs off=some v) :
  ∃x,(part ty qY off).run P0 w = .ok x w/\fZ Δ v x:=
 zat w hc (by grind[zaE,X1])
theorem TI:∀{fs:List Field} {x y:List V} {xs ys:Array Value} {b:Bool},(∀f∈fs,FM f.type=true/\f.name≠ "_")->gW Δ x xs.toList->gW Δ y ys.toList->
  Mz fs x y=some b->∀a w,(Op.eqFields (a+1) xs ys fs).run P0 w = .ok b w
 |[],x,y,xs,ys,b,_,_,_,hv,a,w=>by simp[Mz]at hv;subst hv;rfl
 | f::fs,x,y,xs,ys,b,hf,hx,hy,hv,a,w=>by
   simp only[Mz,fR]at hv
   let⟨p,c,q,d,e,g,h⟩:=hv
   let⟨hft,hfn⟩:=hf f (by simp)
   let⟨p',hp,hpr⟩:=LY w hft hx c
   let⟨q',hq,hqr⟩:=LY w hft hy d
   have i:=(L8 hpr hqr g).1 a w;simp only[Op.eqFields];rw[if_pos hfn];simp[Lv,hp,hq,i,Pd]
   cases e with
   |false=>simp_all
   |true=>exact TI (by simp_all) hx hy h a w
theorem Qj{ty:Nat} (a:K9 ty=some none):FM ty=true:=by
 grind[K9,FM]
theorem Od{ty:Nat} {fs:List Field} (a:K9 ty=some (some fs)):∃b,P0.underlying ty=some (.struct b)/\b.toList=fs/\P0.stoodInHeld ty=false/\∀f∈fs,FM f.type=true/\f.name≠ "_" :=by
 unfold K9 at a;split at a
 ·cases a
 ·cases a
 ·cases a
 ·rename_i b c;split at a
  ·grind
  ·cases a
 ·cases a
theorem Zb{ty:Nat} {d:Option (List Field)} {x y:V} {e:Value}  (f:K9 ty=some d) (hx:fZ Δ x xv) (c:fZ Δ y e) (hv:Oe ty d x y=some b) (w:World) :
  (Op.equal ty xv e).run P0 w = .ok b w:=by
 cases d with
 |none=>exact(L8 hx c hv).1 9999 w
 | some fs=>
   let⟨arr,hu,harr,hs,hf⟩:=Od f
   simp[Oe]at hv;split at hv
   ·cases hx with|agg _ xs hx=>cases c with|agg _ ys c=>
    have a:P0.fieldsOf ty=arr:=by simp[Program.fieldsOf,hu]
    have:=run_equalIn_struct w 9999 ty xs ys (by rw[a];exact hu) hs;rw[a,harr]at this;exact this.trans (TI hf hx c hv 9998 w)
   ·cases hv
def zbB(Δ:Env):Option (Nat×V)->Option (Nat×Value)->Prop
 |none,none=>True
 |some (i,v),some (i',v')=>i=i'/\fZ Δ v v'
 |_,_=>False
theorem IU{ty:Nat} {d:Option (List Field)} {k:V}  (f:K9 ty=some d) (hk:fZ Δ k kv) (w:World):∀{c:List (V×V×Nat)} {a:List MapEntry} {i:Nat} {r:Option (Nat×V)},
  z6 Δ c a->ri ty d k c i=some r->∃r',(Instr.findAsking ty kv a i).run P0 w = .ok r' w/\zbB Δ r r'
 |_,_,i,r,.nil,hv=>by simp[ri]at hv;subst hv;exact⟨none,rfl,trivial⟩
 | _,_,i,r,.cons k' v n e c a hk' hv' hb hs,hv=>by
   simp only[ri,fR]at hv
   let⟨b,h,g⟩:=hv
   have j:=Zb f hk hk' h w;simp[Instr.findAsking,Lv,j]
   cases b with
   |true=>cases g;exact⟨some (i,e.val),rfl,rfl,hv'⟩
   |false=>exact IU f hk w hs g
theorem OO{ty:Nat} {k:V}  {ds:TypeDesc} (d:P0.underlying ty=some ds) (hk:fZ Δ k kv):∀{c:List (V×V×Nat)} {a:List MapEntry} {i:Nat} {r:Option (Nat×V)},
  z6 Δ c a->ri ty none k c i=some r->∃r',Instr.findNow ds kv a i=some r'/\zbB Δ r r'
 |_,_,i,r,.nil,hv=>by simp[ri]at hv;subst hv;exact⟨none,rfl,trivial⟩
 | _,_,i,r,.cons k' v n e c a hk' hv' hb hs,hv=>by
   simp only[ri,fR]at hv
   let⟨b,g,f⟩:=hv
   have h:=(L8 hk hk' g).2 ds d;simp[Instr.findNow,h]
   cases b with
   |true=>cases f;exact⟨some (i,e.val),rfl,rfl,hv'⟩
   |false=>exact OO d hk hs f
theorem EU{ty:Nat} {d:Option (List Field)} {k:V}  (c:K9 ty=some d) (hk:fZ Δ k kv) (w:World) {b:List (V×V×Nat)} {a:List MapEntry} {r:Option (Nat×V)}
  (h:z6 Δ b a) (hv:ri ty d k b 0=some r):∃r',(Instr.findKey ty kv a).run P0 w = .ok r' w/\zbB Δ r r':=by
 cases d with
 | none=>
   have i:=Qj c;unfold FM at i
   cases hu:P0.underlying ty with
   |none=>simp_all
   | some ds=>
     let⟨r',j,l⟩:=OO hu hk h hv
     simp_all[Instr.findKey,hH]
 | some fs=>
   let⟨arr,hu,_,_,_⟩:=Od c
   cases h with
   | nil=>
     simp[ri]at hv;subst hv
     exact⟨none,by simp_all[Instr.findKey,hH,Instr.findNow],trivial⟩
   | cons k' v n e b a f g hb hs=>
     let⟨r',j,l⟩:=IU c hk w (.cons k' v n e b a f g hb hs) hv
     simp_all[Instr.findNow,Instr.sameNow,Instr.findKey,Lv,hH,Pd]
theorem Hu{em:Bool} {q:Nat}   (w:World) (hq:0<q) (hc:gW Δ cs qY.toList):∀(fs:List Field),(∀f∈fs,FM f.type=true/\f.name≠ "_")->
  (fs.all λf=>(B6 cs f.offset).isSome)=true->
  (forIn fs PUnit.unit (λf _=>if f.name≠ "_" then do
    let x <-part f.type qY f.offset
    Instr.checkKey em q f.type x
    pure (ForInStep.yield PUnit.unit)
   else pure (ForInStep.yield PUnit.unit):Field->PUnit->Sem (ForInStep PUnit))).run P0 w = .ok PUnit.unit w
 |[],_,_=>rfl
 | f ::fs,hf,hh=>by
   obtain⟨m,rfl⟩:∃m,q=m+1:=by simp_all
   let⟨hft,hfn⟩:=hf f (by simp)
   simp only[wBn,vU]at hh
   let⟨v,hv⟩:=Option.isSome_iff_exists.1 hh.1
   let⟨x,hx,hr⟩:=LY w hft hc hv
   have a:(Instr.checkKey em (m+1) f.type x).run P0 w = .ok () w:=by
     unfold FM at hft;split at hft
     ·simp_all[Instr.checkKey,hH]
     ·simp_all[Instr.checkKey,hH]
     ·simp_all[Instr.checkKey,hH]
     ·cases hft
   have b:=Hu (em:=em) w hq hc fs (by simp_all) hh.2
   simp_all
theorem yZ{ty:Nat} {d:Option (List Field)} {k:V}  (em:Bool) (q:Nat) (hq:0<q) (w:World) (c:K9 ty=some d) (hk:fZ Δ k kv) (b:JF d k=true) :
  (Instr.checkKey em (q+1) ty kv).run P0 w = .ok () w:=by
 cases d with
 | none=>
   have a:=Qj c;unfold FM at a;split at a
   ·simp_all[Instr.checkKey,hH]
   ·simp_all[Instr.checkKey,hH]
   ·simp_all[Instr.checkKey,hH]
   simp_all
 | some fs=>
   let⟨arr,hu,harr,_,hf⟩:=Od c
   simp[JF]at b;split at b
   ·cases hk with
    | agg cs qY hc=>
      have:=Hu (em:=em) w hq hc fs hf b;rw[<-harr,Array.forIn_toList]at this
      simp_all[Instr.checkKey,Lv,hH,Pd]
   ·cases b
end
section
variable{Δ:Env}{h:Hp}{w:World}{n:Nat}{t:Tm}{a:Act}
theorem VB(f:WR Δ h w) {l:Nat} {d:D} (g:Δ l=some d) {e:List (V×V×Nat)} {c:Nat} (i:h.get l=some (.map e c)) :
  ∃a,w.heap[d.b]? =some (.map a c)/\z6 Δ e a.toList:=by
 let⟨o,ho,hr⟩:=f.obj l d g
 rw[i]at ho;cases ho
 let⟨_,_,_,a,j,k⟩:=hr
 simp_all
theorem run_getObj_map{r:Nat}{a:Array MapEntry}{c:Nat}(b:w.heap[r]? =some (.map a c)):(getObj r).run P0 w = .ok (.map a c) w:=by grind[getObj,Sem.run]
theorem SI {a:Value} {ok:Bool} {r:Option (Nat×V)} {r':Option (Nat×Value)} (c:fZ Δ z a) (b:zbB Δ r r') :
  fZ Δ (found z ok r) (match r' with
   |some (_,v)=>if ok then .tuple #[v,.bool true] else v
   |none=>if ok then .tuple #[a,.bool false] else a):=by
 cases r with
 | none=>cases r' with
   |none=>cases ok
          ·exact c
          ·exact .tuple _ _ (.cons _ _ _ _ c (.one (.bool false)))
   |some _=>cases b
 | some x=>cases r' with
   |none=>cases b
   | some d=>
     let⟨_,hv⟩:=b
     cases ok
     ·exact hv
     ·exact .tuple _ _ (.cons _ _ _ _ hv (.one (.bool true)))
theorem U1(s:WR Δ h w) {j:Nat} {p q:PF} {ok:Bool} {mv kv:Value} {v:V} (hp:∀v,p.f t h=some v->fZ Δ v mv) (hq:∀v,q.f t h=some v->fZ Δ v kv)
  (hv:(HS j p q ok).f t h=some v):∃r,(Instr.lookup j mv kv ok).run P0 w = .ok r w/\fZ Δ v r:=by
 unfold HS at hv;split at hv
 ·rename_i B C n;split at hv
  ·rename_i d z e u
   let⟨zv,hzr,hzv,_⟩:=Dl u
   simp[fR,jf]at hv
   let⟨m,x,k,y,hh,a⟩:=hv
   have o:=hp _ x;have hk:=hq _ y;split at a
   ·cases a;cases o;have g:=yZ true 9999 (by omega) w e hk hh;have b:=EU e hk w z6.nil (by rfl)
    let⟨r',b,hr⟩:=b
    have i:r' = none:=by cases r' <;> first|rfl|cases hr
    subst i;refine⟨_,?_,SI (r:=none) (r':=none) (hzv Δ) trivial⟩;simp[Instr.lookup,Lv,hH n]
    simp_all
   ·simp only[Ou,fR]at a
    let⟨es,c,hg,r,b,a⟩:=a
    cases a
    cases o with
    | map l d' A=>
      let⟨es',hb,he⟩:=VB s A hg
      let⟨r',b,hr⟩:=EU e hk w he b
      have g:=yZ es'.isEmpty 9999 (by omega) w e hk hh;refine⟨_,?_,SI (hzv Δ) hr⟩;simp only[Instr.lookup,Lv,hH n,Pd,YJ,run_getObj_map hb]
      grind[Lv,Pd,YJ]
   ·cases a
  ·cases hv
 ·cases hv
theorem zcg(i:WR Δ h w) {ty:Nat} {b:Array Nat} (d:b[0]? =some ty) {rt:Nat} {p:PF} {xv:Value} {v:V} (hp:∀v,p.f t h=some v->fZ Δ v xv)
  (hv:(hlen ty p).f t h=some v):∃r,(Builtin.len_ b rt #[xv]).run P0 w = .ok r w/\fZ Δ v r:=by
 unfold hlen at hv;split at hv
 ·rename_i g;rw[fR]at hv
  let⟨x,c,a⟩:=hv
  have hx:=hp _ c;split at a
  ·cases a
   cases hx with
   |str s=>exact⟨goInt s.size,by simp_all[Builtin.len_,hH],.int _ _⟩
  ·cases a
 ·rename_i e g;rw[fR]at hv
  let⟨x,c,a⟩:=hv
  have hx:=hp _ c;split at a
  ·rename_i lc off m;cases a;cases hx;exact⟨goInt m,by simp_all[Builtin.len_,hH],.int _ _⟩
  ·cases a;cases hx;exact⟨goInt 0,by simp_all[Builtin.len_,hH],.int _ _⟩
  ·cases a
 ·cases hv
theorem Xd (w:World):∀{l:List V} {c:List Value} {x:V} {a:Value} {v:V},fZ Δ x a->gW Δ l c->TS b x l=some v->
  ∃r,(c.foldlM (if b then Builtin.max2 else Builtin.min2) a).run P0 w = .ok r w/\fZ Δ v r
 |[],_,x,a,v,hx,hl,hv=>by simp[TS]at hv;subst hv;cases hl;simp_all
 | y ::l,_,x,a,v,hx,hl,hv=>by
   cases hl with
   | cons _ g _ c d hs=>
     unfold TS at hv;split at hv
     ·simp_all
     ·rename_i k p k' q r e
      cases e;cases hx;cases d
      let⟨res,h,f⟩:=Xd w (.int k _) hs hv
      refine⟨res,?_,f⟩;rw[List.foldlM_cons];simp[Lv];cases b
      ·simp_all[if_false,Builtin.min2]
      simp_all[Builtin.max2]
     ·cases hv
theorem ZB{c:PF} {a pv d:Value}  (w:World) (hc:∀v,c.f t h=some v->fZ Δ v a) (hp:∀v,p.f t h=some v->fZ Δ v pv) (hq:∀v,q.f t h=some v->fZ Δ v d)
  (hv:(MH c p q).f t h=some v):∃r,(do pure (Next.value (if <-asBool a then pv else d)):Sem Next).run P0 w = .ok (.value r) w/\fZ Δ v r:=by
 unfold MH at hv;simp[fR]at hv
 let⟨x,g,e⟩:=hv
 have hx:=hc _ g;split at e
 ·rename_i b;cases hx;cases b
  ·simp_all[asBool]
  simp_all[asBool]
 ·cases e
theorem Rx {x:Operand}  (w:World) (hp:∀v,p.f t h=some v->fZ Δ v (a.eval x)) (hv:(Ap p).f t h=some v) {dst ty pos af gd} :
  (execOp a.eval {dst:=dst,op:= .nilCheck x,type:=ty,pos:=pos,after:=af,guard:=gd}).run P0 w = .ok (.value (a.eval x)) w/\fZ Δ v (a.eval x):=by
 unfold Ap at hv;rw[fR]at hv
 let⟨y,c,b⟩:=hv
 have e:=hp _ c;simp[execOp];generalize a.eval x=xv at e⊢;split at b
 ·cases b;cases e with|ptr _ _ d hd=>exact⟨rfl,.ptr _ _ d hd⟩
 ·cases b;cases e with|func _ _ _ p' q' c b=>exact⟨rfl,.func _ _ _ p' q' c b⟩
 ·cases b
theorem Up {i:Nat}   (w:World) (hp:∀v,p.f t h=some v->fZ Δ v xv) (hv:(GY p i).f t h=some v) :
  ∃r,(Instr.extract xv i).run P0 w = .ok r w/\fZ Δ v r:=by
 unfold GY at hv;rw[fR]at hv
 let⟨y,c,a⟩:=hv
 have d:=hp _ c;split at a
 ·cases d with
  | tuple vs e b=>
    let⟨x,hx,hr⟩:=b.get _ _ (V2 a)
    simp_all[Instr.extract]
 ·cases a
theorem Hm(a:WR Δ h w) {l:Nat} {d:D} (c:Δ l=some d) {off m:Nat} {cs:List V} (hv:Lo h l off m=some cs) :
  ∃xs,(loadCells ⟨d.b,d.base+off,none⟩ m).run P0 w = .ok (Array.mk xs) w/\gW Δ cs xs:=by
 let⟨arr,f,e⟩:=Lu a c hv
 exact⟨arr.toList,by omega,e⟩
theorem ZY  (hv:Lo h l off m=some cs):cs.length=m:=by
 grind[Lo,mQ,jf,sub_eq]
theorem zbS(E:WR Δ h w) (C:TR Δ n t a) {o:Oper} {v:V} (hv:(iJ o).f t h=some v):∃x,(execOp a.eval o).run P0 w = .ok (.value x) w/\fZ Δ v x:=by
 let⟨dst,op,ty,pos,af,gd⟩:=o
 have j:∀x v,(Ab x).f t h=some v->fZ Δ v (a.eval x):=by grind[yO]
 cases op with
 |move x=>exact⟨_,rfl,j x v hv⟩
 |assign x=>exact⟨_,rfl,j x v hv⟩
 |pick c p q=>exact ZB w (j c) (j p) (j q) hv
 | load ty a'=>
   let⟨x,A,z⟩:=Sq E (j a') hv
   exact⟨x,wU A,z⟩
 | nilCheck x=>
   let⟨A,z⟩:=Rx w (j x) hv (dst:=dst) (ty:=ty) (pos:=pos) (af:=af) (gd:=gd)
   simp_all
 | binOp op K x y Q=>
   simp[iJ,fR]at hv
   let⟨p,A,q,z,F⟩:=hv
   let⟨r,e,u⟩:=zcc (X:=x) (Y:=y) w (j x _ A) (j y _ z) F
   exact⟨r,wU e,u⟩
 | unOp op K x=>
   simp[iJ,fR]at hv
   let⟨p,A,z⟩:=hv
   let⟨r,e,u⟩:=zd3 w (j x _ A) z
   exact⟨r,wU e,u⟩
 | convert L d x=>
   let⟨r,e,u⟩:=zas w (j x) hv
   exact⟨r,wU e,u⟩
 | build ty parts=>
   obtain⟨r,e,u⟩:=YA C hv;refine⟨r,wU ?_,u⟩;rw[<-e];congr 2
   grind
 | makeFunc fn first I=>
   cases fn with
   | func f=>
     simp[iJ,fR]at hv
     let⟨p,A,q,z,F⟩:=hv
     cases F;refine⟨_,rfl,.func f p q _ _ ?_ ?_⟩
     ·have:=Lh C A;simp_all
     ·have:=Lh C z;simp_all
   |_=>cases hv
 | slice ty x lo hi M=>
   cases M with
   | none=>
     let⟨r,e,u⟩:=YB E C (j x) hv
     exact⟨r,wU e,u⟩
   |some _=>cases hv
 | fieldAddr s x f=>
   let⟨r,e,u⟩:=Pk w (j x) hv
   exact⟨r,wU e,u⟩
 | indexAddr ty x i=>
   let⟨r,e,u⟩:=PD w (j x) (j i) hv
   exact⟨r,wU e,u⟩
 | index ty x i=>
   let⟨r,e,u⟩:=Yl w (j x) (j i) hv
   exact⟨r,wU e,u⟩
 | lookup ty m k ok=>
   let⟨r,e,u⟩:=U1 E (j m) (j k) hv
   exact⟨r,wU e,u⟩
 | extract x i=>
   let⟨r,e,u⟩:=Up w (j x) hv
   exact⟨r,wU e,u⟩
 | call c =>
   let⟨callee,args,argTypes⟩:=c
   simp[iJ]at hv
   cases callee with
   | builtin b=>
     cases b <;> try (cases hv;done)
     case len=>
       simp only at hv;split at hv
       ·rename_i x G N g D
        have H:argTypes[0]? =some G:=by rw[<-wBI,D];rfl
        let⟨r,e,u⟩:=zcg E (rt:=ty) H (j x) hv
        refine⟨r,?_,u⟩;have J:args.map a.eval = #[a.eval x]:=by apply Array.ext';simp[g]
        simp[execOp,resolve,J];exact wU e
       ·cases hv
     case min=>
       simp[fR]at hv
       let⟨l,A,z⟩:=hv
       split at z
       ·rename_i x r
        have B:=Lh C A
        cases g:args.toList.map a.eval with
        |nil=>rw[g]at B;cases B
        | cons O r'=>
          rw[g]at B
          cases B with
          | cons _ _ _ _ hx P=>
            let⟨res,F,e⟩:=Xd w hx P z
            refine⟨res,?_,e⟩;have J:(args.map a.eval).toList=O::r':=by simpa using g
            simp[execOp,resolve];refine wU ?_
            grind[Builtin.min_]
       ·cases z
   |value f=>cases hv
   |invoke r m=>cases hv
 |_=>cases hv
end
def RW(Δ:Env)(b:Nat):Prop:=∃l d,Δ l=some d/\d.ro=false/\d.b=b
structure FR (Δ a:Env) (w w':World):Prop where
 le:Δ.le a
 size:w.heap.size<=w'.heap.size
 os:w'.os=w.os
 tape:w'.tape=w.tape
 output:w'.output=w.output
 fk:∀b,b<w.heap.size->¬RW Δ b->w'.heap[b]? =w.heap[b]?
 new:∀l d,a l=some d->Δ l=some d\/w.heap.size<=d.b\/RW Δ d.b
theorem FR.refl(Δ:Env)(w:World):FR Δ Δ w w:=⟨Env.le_refl _,iZ _,rfl,rfl,rfl,by simp_all,by simp_all⟩
theorem FR.trans{Δ m c:Env} {w w' e:World} (h:FR Δ m w w') (h':FR m c w' e):FR Δ c w e where
 le:=Env.le_trans h.le h'.le
 size:=Gq h.size h'.size
 os:=h'.os.trans h.os
 tape:=h'.tape.trans h.tape
 output:=h'.output.trans h.output
 fk:=λb hb n=>by
  rw[h'.fk b (Ep hb h.size) ?_,h.fk b hb n];rintro⟨l,d,f,p,rfl⟩;rcases h.new l d f with a|a|a
  ·exact n ⟨l,d,a,p,rfl⟩
  ·omega
  simp_all
 new:=λl d f=>by
  rcases h'.new l d f with a|a|⟨o,d',g,i,j⟩
  ·exact h.new l d a
  ·exact .inr (.inl (Gq h.size a))
  ·rcases h.new o d' g with k|k|k
   ·exact .inr (.inr ⟨o,d',k,i,j⟩)
   ·omega
   simp_all
theorem xN(h:Hp) (o:O) (l:Nat):(h.new o).get l=if h.next=l then some o else h.get l:=by
 rw[Hp.get_eq,Hp.get_eq];unfold Hp.new;simp[Tr.KJ]
 grind
theorem qP{h:Hp}  (o:O) (m:Nat) (a:l<h.next):(h.put l o).get m=if l=m then some o else h.get m:=by
 rw[Hp.get_eq,Hp.get_eq];unfold Hp.put;simp[Tr.KJ]
 grind
def Env.set(Δ:Env)(l:Nat)(d:D):Env:=λm=>if m=l then some d else Δ m
theorem Env.AX{Δ:Env} {l:Nat} {d:D} (h:Δ l=none):Δ.le (Δ.set l d):=λm e a=>by
 unfold Env.set
 grind
theorem Env.Du(Δ:Env)(l:Nat)(d:D):(Δ.set l d) l=some d:=if_pos rfl
theorem Env.lX{Δ:Env} {l m:Nat} {d e:D} (h:(Δ.set l d) m=some e):(m=l/\e=d)\/(m≠l/\Δ m=some e):=by
 unfold Env.set at h
 grind
theorem WR.Il{Δ:Env} {h:Hp} {w:World} (a:WR Δ h w):Δ h.next=none:=by
 cases hd:Δ h.next with
 |none=>rfl
 |some d=>exact absurd (a.fresh _ _ hd) (wBc _)
theorem heap_alloc(w:World) (ob:Obj) (b:Nat):(w.alloc ob).heap[b]? =if b=w.heap.size then some ob else w.heap[b]?:=by
 grind[World.alloc]
theorem Dz.step{Δ a:Env} {w w':World} (h:Dz Δ w) (hk:∀b,b<w.heap.size->¬RW Δ b->w'.heap[b]? =w.heap[b]?) (i:∀l d,a l=some d->d.ro=false->Δ l=some d\/w.heap.size<=d.b\/RW Δ d.b):Dz a w':=by
 intro g c f
 let⟨⟨e,fr,j⟩,k⟩:=h g c f
 grind[RW]
theorem WR.lay{Δ:Env} {h:Hp} {w:World} (c:WR Δ h w) {l:Nat} {o:O} {d:D} {ob:Obj} (v:Δ l=none) (y:l<h.next) (z:h.get l=some o) (hb:d.b=w.heap.size)
  (A:TT (Δ.set l d) d o (some ob)):WR (Δ.set l d) h (w.alloc ob) where
 fresh:=λm e a=>by
  rcases Env.lX a with⟨rfl,rfl⟩|⟨_,a⟩
  ·exact y
  ·exact c.fresh m e a
 nJ:=λm e a=>by
  simp[World.size_alloc];rcases Env.lX a with⟨rfl,rfl⟩|⟨_,a⟩
  ·omega
  ·have:=c.nJ m e a;omega
 obj:=λm e a=>by
  rcases Env.lX a with⟨rfl,rfl⟩|⟨_,a⟩
  ·refine⟨o,z,?_⟩;rw[heap_alloc,if_pos hb];exact A
  ·let⟨o',f,j⟩:=c.obj m e a
   refine⟨o',f,?_⟩;rw[heap_alloc,if_neg (TL (c.nJ m e a))];exact j.mono (Env.AX v)
 apart:=λm x e e' p B a k n hp q r i s=>by
  rcases Env.lX a with⟨f,j⟩|⟨_,f⟩ <;> rcases Env.lX k with⟨t,C⟩|⟨_,t⟩
  ·omega
  ·have:=c.nJ x e' t;grind
  ·have:=c.nJ m e f;grind
  ·exact c.apart m x e e' p B f t n hp q r i s
 JN:=λg p u hp=>by
  let⟨e,f,j⟩:=c.JN g p u hp
  exact⟨e,Env.AX v _ _ f,j⟩
 zV:=c.zV
 V9:=c.V9.step (by simp_all[heap_alloc,if_neg,TL]) λm e a _=>by
  rcases Env.lX a with⟨rfl,rfl⟩|⟨_,a⟩
  ·omega
  simp_all
theorem WR.more{Δ:Env} {h:Hp} {w:World} (a:WR Δ h w) (o:O):WR Δ (h.new o) w where
 fresh:=λl d f=>wBf (a.fresh l d f)
 nJ:=a.nJ
 obj:=λl d f=>by
  let⟨o',n,q⟩:=a.obj l d f
  refine⟨o',?_,q⟩;rw[xN,if_neg (Nat.ne_of_gt (a.fresh l d f))];exact n
 apart:=λm r e e' p s k b i hp c=>by
  rw[xN,if_neg (Nat.ne_of_gt (a.fresh _ _ k))]at hp;rw[xN,if_neg (Nat.ne_of_gt (a.fresh _ _ b))]at c;exact a.apart m r e e' p s k b i hp c
 JN:=λg p j hp=>by
  rw[xN,if_neg (by have:=a.zV;omega)]at hp;exact a.JN g p j hp
 zV:=wBK a.zV
 V9:=a.V9
theorem FR.lay{Δ:Env} {w:World} {l:Nat} {d:D} {ob:Obj} (c:Δ l=none) (hb:d.b=w.heap.size):FR Δ (Δ.set l d) w (w.alloc ob) where
 le:=Env.AX c
 size:=by simp
 os:=rfl
 tape:=rfl
 output:=rfl
 fk:=by simp_all[heap_alloc,if_neg,TL]
 new:=λm e a=>by
  rcases Env.lX a with⟨rfl,rfl⟩|⟨_,a⟩
  ·omega
  simp_all
def Made(Δ:Env) (ob:O) (mk:Nat->V) (a:Obj) (mv:Nat->Value):Prop:=∀l b,Δ l=none->∃d,d.b=b/\TT (Δ.set l d) d ob (some a)/\fZ (Δ.set l d) (mk l) (mv b)
theorem Cg{Δ:Env} {d:D} {cs:List V} {c:Array Value} {e:Nat} (hs:c.size=d.asz) (hb:d.base=0) (a:cs.length<=d.asz) (hc:∀(i:Nat) v,cs[i]? =some v->∃x,c[i]? =some x/\fZ Δ v x) :
  K8 Δ d cs (some (.cells c e (0,0))):=
 ⟨c,e,(0,0),rfl,hs,λ_=> .inl rfl,by omega,λi v hi=>by rw[hb,C7];exact hc i v hi⟩
theorem Wm{Δ:Env} {e:Nat} {v:V} {xv:Value} {ob:O} {mk:Nat->V} (hx:fZ Δ v xv) (hv:mi e v=some (ob,mk)) :
  Made Δ ob mk (.cells xv.cells e) (λb=> .pointer (some ⟨b,0,none⟩)):=by
 unfold mi at hv;rw[jf]at hv
 let⟨_,hv⟩:=hv
 cases hv;intro l b c;have hc:=hx.cells;have a:=Env.AX (d:=⟨b,0,1,v.cells.length,xv.cells.size,false,0⟩) c;refine⟨⟨b,0,1,v.cells.length,xv.cells.size,false,0⟩,rfl,⟨rfl,rfl,rfl,rfl,λ_=>?_⟩,?_⟩
 ·refine Cg rfl rfl (Nat.le_of_eq (by first|(simpa using hc.length)|(simpa using hr.length))) λi u hi=>?_
  let⟨x,hx,hr⟩:=hc.get i u hi
  exact⟨x,by simp_all,hr.mono a⟩
 ·exact fZ.ptr l 0 ⟨b,0,1,v.cells.length,xv.cells.size,false,0⟩ (Env.Du _ _ _)
theorem HU{a size jL:Nat}  (h:elemOf a=some (size,jL,z)) :
  El a=some size/\zbx a=some jL/\zeroV a=some z/\0<size/\z.cells.length=size/\gj z.cells=true:=by
 grind[elemOf,fR,jf,UC,Iw]
theorem JQ{e:Nat} (h:KZ t=some e):P0.underlying t=some (.slice e):=by
 grind[KZ]
theorem Ud(z:List V):∀m i,(CU m z)[i]? =if i<m*z.length then z[i % z.length]? else none
 |0,i=>by simp[CU]
 | m + 1,i=>by
   simp[CU,List.getElem?_append];by_cases a:i<z.length
   ·rw[if_pos a,if_pos (by grind),Nat.mod_eq_of_lt a]
   ·rw[ Ud z m]
    have e:i % z.length=(i-z.length) % z.length:=by
      rw[Nat.mod_eq_sub_mod (by omega)]
    grind
theorem B4(z:List V):∀m,(CU m z).length=m*z.length
 |0=>by simp[CU]
 |m+1=>by simp[CU,B4 z m,YF,Nat.add_comm]
theorem S7{Δ:Env} {z:List V} {a:Array Value} (b:gW Δ z a.toList) (h0:0<z.length) (m:Nat):gW Δ (CU m z) ((Array.range (m*z.length)).map λi=>a[i % a.size]!).toList:=by
 have hlen:=b.length;refine gW.Rf (by simp[B4]) λi v hi=>?_;rw[Ud]at hi;by_cases h:i<m*z.length
 ·rw[if_pos h]at hi
  let⟨x,hx,hr⟩:=b.get _ _ hi
  grind
 simp_all
section
variable{Δ:Env}{h:Hp}{w:World}{n:Nat}{t:Tm}{a:Act}
theorem Tx(N : TR Δ n t a) {o:Oper} {ob:O} {mk:Nat->V} (hv:(su o).f t=some (ob,mk)) :
    ∃mo mv,(∀w,(execOp a.eval o).run P0 w = .ok (.value (mv w.heap.size)) (w.alloc mo))/\Made Δ ob mk mo mv:=by
  let⟨dst,op,ty,pos,af,gd⟩:=o
  cases op with
  | alloc e=>
    simp[su]at hv;split at hv
    ·rename_i z I
     let⟨zv,hzr,hzv,_⟩:=Dl I
     refine⟨_,_,λw=>wU ?_,Wm (hzv Δ) hv⟩
     simp_all[Instr.alloc,newVar,newRow]
    ·cases hv
  | box e x=>
    simp[su,fR]at hv
    let⟨v,J,G⟩:=hv
    refine⟨_,_,λw=>wU ?_,Wm (Hy N J) G⟩
    rfl
  | buildSlice K len parts=>
    simp[su]at hv;split at hv
    ·rename_i g D
     have Q:=JQ D;split at hv
     ·rename_i size jL z R
      let⟨hs,_,I,hpos,hzl,_⟩:=HU R
      let⟨zv,hzr,hzv,_⟩:=Dl I
      split at hv
      ·rename_i y
       have ad:=MY y;simp only[Ho,fR,jf]at hv
       let⟨L,J,cs,G,_,E⟩:=hv
       cases E;have B:=(hzv Δ).cells;have j:=S7 B (by omega) len;have ag:zv.cells.size=size:=by have:=B.length;simp[wBh]at this;omega
       have A:gW Δ (CU len z.cells) ((Array.range (len*size)).map λi=>(if len*size=0 then(#[]:Array Value) else zv.cells)[i % (if len*size=0 then(#[]:Array Value) else zv.cells).size]!).toList:=by
         by_cases h0:len*size=0
         ·simp_all
         ·simp_all
       let⟨qY,hf,hr⟩:=QV (Ju N J) A G
       refine⟨.cells qY g,λb=> .slice (some ⟨b,0,none⟩) len len,λw=>wU ?_,?_⟩
       ·have s:(parts.map λx=>(x.1,a.eval x.2)).toList=parts.toList.map λx=>(x.1,a.eval x.2):=by simp
        have S:¬(len*size>2 ^ 24):=by omega
        have ae:(if len*size=0 then(pure #[]:Sem (Array Value)) else do pure (<-zeroValue g).cells).run P0 w = .ok (if len*size=0 then(#[]:Array Value) else zv.cells) w:=by
          by_cases h0:len*size=0
          ·simp_all
          ·simp_all
        simp only[Instr.buildSlice,Lv,hH Q,AH hs,Pd,Sem.run_ite];rw[if_neg S];simp only[YJ,Pd,Lv];by_cases h0:len*size=0
        ·simp only[if_pos h0]at hf⊢
         rw[s];have F:Instr.fill (λi=>some (i*size,size)) (Array.map (λx=>(#[]:Array Value)[x % (#[]:Array Value).size]!) (Array.range (len*size))) (List.map (λx=>(x.1,a.eval x.2)) parts.toList)=some qY:=hf;rw[F];rfl
        ·simp only[if_neg h0,hzr,Pd]at hf⊢
         rw[s];have F:Instr.fill (λi=>some (i*size,size)) (Array.map (λx=>zv.cells[x % zv.cells.size]!) (Array.range (len*size))) (List.map (λx=>(x.1,a.eval x.2)) parts.toList)=some qY:=hf;rw[F];rfl
       ·intro l b P
        have M:=hr.length;have ah:cs.length=len*size:=by
          have T:∀{place:Nat->Option (Nat×Nat)} {L:List (Nat×V)} {c c':List V},FT place c L=some c'->c'.length=c.length:=by
            intro place L
            induction L with
            |nil=>grind[FT]
            | cons p L ih=>
              intro c c' h;simp only[FT,fR,jf]at h
              let⟨q,_,_,mid,U,W⟩:=h
              rw[ih W,(Me U).1]
          rw[T G,B4,hzl]
        have y:=Env.AX (d:=⟨b,0,size,cs.length,qY.size,false,0⟩) P;refine⟨⟨b,0,size,cs.length,qY.size,false,0⟩,rfl,⟨rfl,rfl,rfl,rfl,λ_=>?_⟩,?_⟩
        ·refine Cg rfl rfl (by simp_all) λi u hi=>?_
         let⟨x,hx,hrx⟩:=hr.get i u hi
         exact⟨x,by simp_all,hrx.mono y⟩
        ·refine fZ.slice l 0 len len 0 ⟨b,0,size,cs.length,qY.size,false,0⟩ (Env.Du _ _ _) rfl (iZ _) (.inl ⟨rfl,?_,?_⟩)
         ·simp_all
         simp_all
      ·cases hv
     ·cases hv
    ·cases hv
  | makeSlice K m c=>
    simp[su]at hv;split at hv
    ·rename_i g D
     have Q:=JQ D;split at hv
     ·rename_i size jL z R
      let⟨hs,hby,I,hpos,hzl,_⟩:=HU R
      let⟨zv,hzr,hzv,i,hi,hzi⟩:=Dl I
      simp[fR]at hv
      let⟨mv,J,cv,G,E⟩:=hv
      have hm:=Hy N J;have hc:=Hy N G;unfold gX at E;split at E
      ·rename_i H c'
       simp only[jf]at E
       let⟨h4,T,U,W⟩:=E
       cases W;have X:=MY h4;have ai:c'*jL<=281474976710656:=MY T;have Y:=MY U;have Z:i.bytes=jL:=by
         unfold zbx at hby;rw[fR]at hby
         let⟨i',hi',hb⟩:=hby
         rw[hi]at hi';cases hi';simpa using hb
       have B:=(hzv Δ).cells;have j:=S7 B (by omega) c';rw[hzl]at j;have aa:a.eval m = .int .i64 (H:Int):=by
         generalize a.eval m=x at hm;cases hm;rfl
       have ab:a.eval c = .int .i64 (c':Int):=by
         generalize a.eval c=x at hc;cases hc;rfl
       have wr:∀k:Nat,k<=1099511627776->IntKind.i64.wrap (k:Int)=k:=by grind[IntKind.wrap,IntKind.bits,IntKind.signed]
       refine⟨.cells ((Array.range (c'*size)).map λi=>zv.cells[i % zv.cells.size]!) g,λb=> .slice (some ⟨b,0,none⟩) H c',λw=>wU ?_,?_⟩
       ·rw[aa,ab]
        have e1:((i.bytes:Int)*(c':Int)>2 ^ 48)=False:=by
          rw[Z];have:(jL:Int)*(c':Int)=((c'*jL:Nat):Int):=by rw[Nat.mul_comm];simp
          rw[this];simp;omega
        have A:(if c'*size=0 then(pure #[]:Sem (Array Value)) else do pure (<-zeroValue g).cells).run P0 w = .ok (if c'*size=0 then(#[]:Array Value) else zv.cells) w:=by
          by_cases h0:c'*size=0
          ·simp_all
          ·simp_all
        have C:((Array.range (c'*size)).map λi=>(if c'*size=0 then(#[]:Array Value) else zv.cells)[i % (if c'*size=0 then(#[]:Array Value) else zv.cells).size]!)=((Array.range (c'*size)).map λi=>zv.cells[i % zv.cells.size]!):=by
          by_cases h0:c'*size=0
          ·simp_all
          ·simp_all
        have c1:¬((c':Int)<0):=by omega
        have c2:¬((H:Int)<0):=by omega
        have c3:¬((H:Int)>(c':Int)):=by omega
        simp only[Instr.makeSlice,Lv,hH Q,Pd,asInt,asIntOf,YJ,typeInfo,run_program,hi,wr H (by omega),wr c' Y,e1,c1,c2,c3,decide_false,Bool.or_false,wBM,if_false,run_askRoom,AH hs,Int.toNat_natCast];by_cases h0:c'*size=0
        ·simp only[if_pos h0,newRow,run_newObj,Lv,YJ,Pd]at C⊢
         rw[C];rfl
        simp_all[if_neg,newRow,run_newObj,Lv,YJ,Pd]
       ·intro l b P
        have M:=j.length;simp[wBh]at M;have ac:(CU c' z.cells).length=c'*size:=by rw[B4,hzl]
        have y:=Env.AX (d:=⟨b,0,size,(CU c' z.cells).length,c'*size,false,0⟩) P;refine⟨⟨b,0,size,(CU c' z.cells).length,c'*size,false,0⟩,rfl,⟨rfl,rfl,rfl,rfl,λ_=>?_⟩,?_⟩
        ·refine Cg (by simp) rfl (Nat.le_of_eq ac) λi u hi=>?_
         let⟨x,hx,hrx⟩:=j.get i u hi
         exact⟨x,by grind,hrx.mono y⟩
        ·refine fZ.slice l 0 H c' 0 ⟨b,0,size,(CU c' z.cells).length,c'*size,false,0⟩ (Env.Du _ _ _) rfl X (.inl ⟨rfl,?_,?_⟩)
         ·simp_all
         simp_all
      ·cases E
     ·cases hv
    ·cases hv
  | makeMap K r=>
    cases r with
    | none=>
      simp[su]at hv;split at hv
      ·cases hv
       refine⟨.map #[] 0,λb=> .map (some b),λw=>wU (by simp[Instr.makeMap]),?_⟩;intro l b P;exact⟨⟨b,0,0,0,0,false,1⟩,rfl,⟨rfl,rfl,rfl,#[],rfl,.nil⟩,fZ.map l ⟨b,0,0,0,0,false,1⟩ (Env.Du _ _ _)⟩
      ·cases hv
    |some _=>cases hv
  |_=>cases hv
end
