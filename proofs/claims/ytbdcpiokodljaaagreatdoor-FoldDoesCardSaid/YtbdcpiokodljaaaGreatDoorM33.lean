/- Parts. -/
import Derived.Test.YtbdcpiokodljaaaGreatDoorM13
set_option maxHeartbeats 4000000
namespace Go.Proofs.YtbdcpiokodljaaaGreatDoor.Un
open Dm
def mj(l:List Nat):List Nat:=l.foldl (λa s=>if s∈a then a else a++[s]) []
theorem zw(l:List Nat) (s:Nat):mj (l++[s])=if s∈mj l then mj l else mj l++[s]:=by
 grind[mj]
theorem NI{P:List Nat->Prop} (h0:P []) (hs:∀l s,P l->P (l++[s])) (l:List Nat):P l:=by
 have:∀r:List Nat,P r.reverse:=λr=>by
  induction r <;> grind
 rw[<-List.reverse_reverse l]
 grind
theorem vm(l:List Nat):∀x,x∈mj l↔x∈l:=by
 induction l using NI with
 |h0=>exact λ_=>Iff.rfl
 | hs l s a=>
   grind[zw,wBX,id]
theorem Rl(l:List Nat):(mj l).Nodup:=by
 induction l using NI with
 |h0=>exact List.nodup_nil
 | hs l s a=>
   grind[zw,wBu,wBl,List.nodup_nil,wBX]
theorem HX{l:List Nat} {x:Nat} (h:x∈l):l[l.idxOf x]? =some x:=by
 grind
theorem vY{l:List Nat} (a:l.Nodup) {i j x:Nat} (hi:l[i]? =some x) (b:l[j]? =some x):i=j:=by
 grind[kj,wA9,wB7,absurd]
theorem zdP{l:List Nat}(a:l.Nodup){i x:Nat}(h:l[i]? =some x):l.idxOf x=i:=by grind
theorem QE{l:List Nat} {x y:Nat} (a:x∈l) (b:y∈l) (h:l.idxOf x=l.idxOf y):x=y:=by
 grind[HX,Option.some.inj]
theorem MU{p:Nat->Bool}:∀{l:List Nat} {k v:Nat},l[k]? =some v->p v=true->(l.filter p)[((l.take k).filter p).length]? =some v
 |[],k,v,h,_=>by simp_all
 | a::l,0,v,h,hp=>by
   simp_all
 | a::l,k+1,v,h,hp=>by
   have b:=MU (l:=l) (k:=k) (by simp_all) hp
   grind
theorem zaZ{p:Nat->Bool} {l:List Nat} {j k w:Nat} (h:l[j]? =some w) (hp:p w=true) (a:j<k):((l.take j).filter p).length<((l.take k).filter p).length:=by
 obtain ⟨b,rfl⟩:=kj.1 h;have e:l.take k=l.take j++l[j]::((l.take k).drop (j+1)):=by
  conv=>lhs;rw[<-Zb j (l.take k)]
  rw[List.take_take,wBk (by omega)];congr 1;rw[Yq (by grind),List.getElem_take]
 grind
section
variable (u:U)(as:Nat->Int)
def stays(v:Nat):Bool:=as v == (v:Int)
def fK:List Nat:=u.blocks.flatMap λB=>B.ef.filter (stays as)
def yu:Nat->Nat->Nat
 |0,v=>v
 |k+1,v=>if 0<=as v/\as v≠(v:Int) then yu k (as v).toNat else v
def nm(v:Nat):Nat:=if yu as (u.ef.length+1) v∈fK u as then(fK u as).idxOf (yu as (u.ef.length+1) v) else 0
def L0:List Nat:=(fK u as).filterMap (λn=>match u.ef[n]? with
  |some x=>if leaves x.op=true then some x.state else none
  |none=>none)++u.blocks.filterMap λB=>if B.fin=3 then some B.state else none
def HR:List Nat:=mj (L0 u as)
def iF(x:Vl):Vl where
 op:=x.op
 a:=if 0<(if two x.op=true then 2 else if nW x.op=true then 1 else 0) then nm u as x.a else x.a
 b:=if two x.op=true then nm u as x.b else x.b
 n:=x.n
 args:=if x.op=21\/x.op=20 then x.args.map (nm u as) else x.args
 state:=if leaves x.op=true then(HR u as).idxOf x.state else x.state
def nz(B:Bk):Bk where
 ef:=(B.ef.filter (stays as)).map (fK u as).idxOf
 fin:=B.fin
 cond:=if B.fin=2 then nm u as B.cond else B.cond
 next:=B.next
 eQ:=B.eQ
 state:=if B.fin=3 then(HR u as).idxOf B.state else B.state
def Xu(f:Fm):Fm:=⟨f.func,f.pc,f.locals.map (nm u as),f.stack.map (nm u as)⟩
def iz:U where
 func:=u.func
 pc:=u.pc
 ef:=(fK u as).map λn=>iF u as (u.ef.getD n ⟨0,0,0,0,[],0⟩)
 blocks:=u.blocks.map (nz u as)
 eh:=(HR u as).map λs=>(u.eh.getD s []).map (Xu u as)
end
def zbf(u:U):Prop:=∀(v:Nat) (b:Nat) (k:Nat) (b':Nat) (k':Nat),At u v b k->At u v b' k'->b=b'/\k=k'
theorem JC{u:U} (c:zbf u) {b:Nat} {B:Bk} (a:u.blocks[b]? =some B):B.ef.Nodup:=by
 refine wA9.2 λi j hi d f e=>?_;have g:At u B.ef[i] b i:=⟨B,a,hO hi⟩
 have h:At u B.ef[i] b j:=⟨B,a,by rw[e];exact hO d⟩
 have:=(c _ _ _ _ _ g h).2;omega
theorem AA{u:U} {as:Nat->Int} (f:zbf u):(fK u as).Nodup:=by
 unfold fK;have b:∀(l:List Bk) (i:Nat),(∀k B,l[k]? =some B->u.blocks[i+k]? =some B)->(l.flatMap λB=>B.ef.filter (stays as)).Nodup:=by
  intro l
  induction l with
  |nil=>simp_all
  | cons B l g=>
    intro i h;rw[List.flatMap_cons,wBu];have j:u.blocks[i]? =some B:=h 0 B rfl;refine⟨by grind[JC],g (i+1) λk C hk=>by rw[show i+1+k=i+(k+1) by omega];simp_all,λa m c hc e=>?_⟩;subst e;obtain⟨C,n,d⟩:=Yk.1 hc;obtain⟨k,hk⟩:=nT.1 n;obtain⟨o,p⟩:=nT.1 (LC.1 m).1;obtain⟨q,r⟩:=nT.1 (LC.1 d).1;have:=(f a i o (i+(k+1)) q ⟨B,j,p⟩ ⟨C,h (k+1) C (by simpa using hk),r⟩).1;omega
 exact b u.blocks 0 (by simp_all)
theorem Pt.short{nx:Nat->List Nat} {x:Nat}:∀{b l},Pt nx b l->x∈l->x≠b->∃a,Pt nx x a/\a.length<l.length
 | _,_,.nil,h,hn=>by
   simp_all
 | _,_,.step (p:=p) (b:=b) (l:=l) h e,c,hn=>by
   rcases Pd.1 c with rfl|c
   ·omega
   ·by_cases hp:x=p
    ·subst hp
     exact⟨l,h,by simp⟩
    ·obtain⟨a,d,f⟩:=Pt.short h c hp
     exact⟨a,d,by simp;omega⟩
theorem qM.zaA{nx:Nat->List Nat} {a b:Nat} (c:qM nx a b) (d:qM nx b a) {l:List Nat} (e:Pt nx b l):a=b:=by
 have f:∀n (l:List Nat),l.length<=n->(Pt nx b l->a≠b->False)/\(Pt nx a l->a≠b->False):=by
  intro n
  induction n with
  | zero=>
    intro l e;have:l=[]:=by simp_all
    subst this
    exact⟨λh _=>(nomatch h),λh _=>(nomatch h)⟩
  | succ n m=>
    intro l e;refine⟨λh g=>?_,λh g=>?_⟩
    ·obtain⟨i,j,k⟩:=h.short (c l h) g
     grind
    ·obtain⟨i,j,k⟩:=h.short (d l h) g.symm
     grind
 by_cases h:a=b
 ·exact h
 ·exact((f l.length l (ju _)).1 e h).elim
theorem qM.trans{nx:Nat->List Nat} {a b c:Nat} (g:qM nx a b) (j:qM nx b c):qM nx a c:=λl i=>by
 have d:∀{y l},Pt nx y l->b∈l->a∈l:=by
  intro y l hp
  induction hp with
  | nil=>
    intro f;obtain rfl:b=0:=by simp_all
    exact g _ .nil
  | step h e k=>
    intro f;rcases Pd.1 f with rfl|f
    ·exact g _ (.step h e)
    simp_all
 exact d i (j l i)
structure Fit (u:U) (as:Nat->Int):Prop where
 root:∀v,v<u.ef.length->0<=as v->∃w:Nat,as v=(w:Int)/\w<u.ef.length/\as w=(w:Int)
 up:∀(v w b k:Nat),as v=(w:Int)->At u v b k->∃c j,At u w c j/\(c=b/\j<=k\/c≠b/\qM (next u) c b)
 zdS:∀(v w:Nat),as v=(w:Int)->oJ u v->oJ u w
 use:∀(v:Nat) (x:Vl),u.ef[v]? =some x->stays as v=true->∀w∈iP x,0<=as w
 st:∀(v:Nat) (x:Vl) (fs:List Fm),u.ef[v]? =some x->stays as v=true->leaves x.op=true->u.eh[x.state]? =some fs->∀w∈iq fs,0<=as w
 cond:∀(b:Nat) (B:Bk),u.blocks[b]? =some B->B.fin=2->0<=as B.cond
 out:∀(b:Nat) (B:Bk) (fs:List Fm),u.blocks[b]? =some B->B.fin=3->u.eh[B.state]? =some fs->∀w∈iq fs,0<=as w
class V1 (P:Nat->Prop) (as:Nat->Int):Prop where
 h:∀v,stays as v=true->P v
instance (as:Nat->Int):V1 (λ_=>True) as:=⟨λ_ _=>trivial⟩
instance (as:Nat->Int):V1 (λv=>stays as v=true) as:=⟨λ_ h=>h⟩
section
variable{u:U}{P:Nat->Prop}{as:Nat->Int}[hP:V1 P as] (g:Gd u P)(f:Fit u as)
include g
theorem jl{v:Nat}:v∈fK u as↔v<u.ef.length/\stays as v=true:=by
 unfold fK;rw[Yk];constructor
 ·rintro⟨B,e,hv⟩;obtain⟨a,c⟩:=LC.1 hv;obtain⟨b,d⟩:=nT.1 e;obtain⟨k,hk⟩:=nT.1 a;exact⟨g.jW v b k ⟨B,d,hk⟩,c⟩
 ·rintro⟨a,c⟩;obtain⟨b,k,B,d,hk⟩:=g.FU v a (hP.h v c)
  grind
theorem AR{b:Nat}{B:Bk}(a:u.blocks[b]? =some B):B.ef.Nodup:=JC g.KZ a
omit hP in
theorem CA:(fK u as).Nodup:=AA g.KZ
omit g in
include f in
theorem za7 {v:Nat} (hv:v<u.ef.length) (h0:0<=as v):∃w:Nat,yu as (u.ef.length+1) v=w/\as v=(w:Int)/\w<u.ef.length/\as w=(w:Int):=by
 obtain⟨w,h1,h2,h3⟩:=f.root v hv h0;refine⟨w,?_,h1,h2,h3⟩;unfold yu;split
 ·rename_i h;rw[h1];show yu as u.ef.length w=w;cases u.ef.length <;> simp_all[yu,if_neg]
 omega
include f
theorem WS{v:Nat} (hv:v<u.ef.length) (h0:0<=as v):∃w:Nat,as v=(w:Int)/\w∈fK u as/\nm u as v=(fK u as).idxOf w:=by
 obtain⟨w,d,a,b,e⟩:=za7 f hv h0;have c:w∈fK u as:=(jl g).2 ⟨b,by simp_all[stays]⟩;exact⟨w,a,c,by simp_all[nm,if_pos]⟩
omit f g
theorem Rg{i n:Nat} {x:Vl} (hi:(fK u as)[i]? =some n) (a:u.ef[n]? =some x):(iz u as).ef[i]? =some (iF u as x):=by
 show((fK u as).map _)[i]? =_
 simp_all
theorem EF(g:Gd u P) {i:Nat} {y:Vl} (h:(iz u as).ef[i]? =some y):∃n x,(fK u as)[i]? =some n/\u.ef[n]? =some x/\y=iF u as x/\stays as n=true:=by
 have h:((fK u as).map _)[i]? =some y:=h;rw[AX]at h
 cases hn:(fK u as)[i]? with
 |none=>simp_all
 | some n=>
   obtain⟨a,b⟩:=(jl g).1 (DQ hn)
   simp_all
theorem U9{b:Nat} {B:Bk} (a:u.blocks[b]? =some B):(iz u as).blocks[b]? =some (nz u as B):=by
 show(u.blocks.map _)[b]? =_
 simp_all
theorem Hb{b:Nat} {a:Bk} (h:(iz u as).blocks[b]? =some a):∃B,u.blocks[b]? =some B/\a=nz u as B:=by
 have h:(u.blocks.map _)[b]? =some a:=h
 grind
theorem YQ(b:Nat):next (iz u as) b=next u b:=by
 unfold next
 cases hb:u.blocks[b]? with
 | none=>
   grind[iz]
 |some B=>rw[U9 hb];rfl
theorem QP:next (iz u as)=next u:=funext YQ
theorem Mb{h:Bk->Bk} (a:∀B,(h B).next=B.next) (b:Nat):∀(l:List Bk) (i:Nat),kh (l.map h) i b=kh l i b
 |[],_=>rfl
 | B::l,i=>by
   show((h B).next.filter (·= b)).map (λ_=>i)++kh (l.map h) (i+1) b=_;rw[a,Mb a b l];rfl
theorem QN(b:Nat):ahead (iz u as) b=ahead u b:=Mb (h:=nz u as) (λ_=>rfl) b u.blocks 0
def pk(u:U) (as:Nat->Int) (b k:Nat):Nat:=match u.blocks[b]? with
 |some B=>((B.ef.take k).filter (stays as)).length
 |none=>0
theorem zdv{v b k:Nat} (h:At u v b k) (hs:stays as v=true):At (iz u as) ((fK u as).idxOf v) b (pk u as b k):=by
 obtain⟨B,a,hv⟩:=h;refine⟨_,U9 a,?_⟩;show((B.ef.filter (stays as)).map _)[pk u as b k]? =_
 grind[pk,MU]
theorem zcj{v b j k:Nat} (h:At u v b j) (hs:stays as v=true) (a:j<k):pk u as b j<pk u as b k:=by
 obtain⟨B,c,hv⟩:=h
 simp_all[pk,zaZ]
theorem J7(g:Gd u P) {i b k:Nat} (h:At (iz u as) i b k):∃v j,At u v b j/\stays as v=true/\i=(fK u as).idxOf v/\k=pk u as b j/\(fK u as)[i]? =some v:=by
 obtain⟨m,c,hi⟩:=h;obtain⟨B,e,rfl⟩:=Hb c;have hi:((B.ef.filter (stays as)).map _)[k]? =some i:=hi;rw[AX]at hi
 cases hv:(B.ef.filter (stays as))[k]? with
 |none=>simp_all
 | some v=>
   rw[hv]at hi;obtain rfl:(fK u as).idxOf v=i:=Option.some.inj hi;obtain⟨l,d⟩:=LC.1 (DQ hv);obtain⟨j,f⟩:=nT.1 l;have a:At u v b j:=⟨B,e,f⟩
   refine⟨v,j,a,d,rfl,?_,HX ((jl g).2 ⟨g.jW _ _ _ a,d⟩)⟩;unfold pk;rw[e];exact vY (by grind[AR]) hv (MU f d)
theorem Z0(x:Vl):iP (iF u as x)=(iP x).map (nm u as):=by
 unfold iP;show(if x.op=21 then(iF u as x).args else if x.op=20 then(iF u as x).a::(iF u as x).b::(iF u as x).args.take 1 else if two x.op=true then[(iF u as x).a,(iF u as x).b] else if nW x.op=true then[(iF u as x).a] else[])=_;unfold iF;simp only;by_cases c:x.op=21
 ·simp[c]
 ·rw[if_neg c,if_neg c];by_cases d:x.op=20
  ·simp_all[if_pos,two,List.map_take]
  grind
include g f
theorem M5{w:Nat} (h:oJ u w) (h0:0<=as w):oJ (iz u as) (nm u as w):=by
 obtain⟨x,i,_⟩:=id h;obtain⟨r,a,b,c⟩:=WS g f (by grind) h0;obtain⟨y,d,e⟩:=f.zdS w r a h;exact⟨iF u as y,by rw[c];exact Rg (HX b) d,e⟩
theorem Zz{w b k:Nat} (h:BI u w b k) (s:b<u.blocks.length) (h0:0<=as w):BI (iz u as) (nm u as w) b (pk u as b k):=by
 obtain⟨c,j,d,hc⟩:=h;obtain⟨r,t,v,z⟩:=WS g f (g.jW _ _ _ d) h0;obtain⟨c',x,i,m⟩:=f.up w r c j t d;have hs:=((jl g).1 v).2;refine⟨c',pk u as c' x,by grind[zdv],?_⟩;rw[QP];rcases hc with⟨rfl,A⟩|⟨o,q⟩
 ·rcases m with⟨rfl,p⟩|⟨n,a⟩
  ·exact .inl ⟨rfl,zcj i hs (by omega)⟩
  simp_all
 ·rcases m with⟨rfl,p⟩|⟨n,a⟩
  ·simp_all
  ·refine .inr ⟨λe=>?_,a.trans q⟩;subst e;obtain⟨l,y⟩:=g.reach c' s;exact o (q.zaA a y)
theorem Ld{w b:Nat} (h:rX u w b) (h0:0<=as w):rX (iz u as) (nm u as w) b:=by
 obtain⟨c,j,a,i⟩:=h;obtain⟨r,l,n,o⟩:=WS g f (g.jW _ _ _ a) h0;obtain⟨c',m,k,d⟩:=f.up w r c j l a;refine⟨c',pk u as c' m,by grind[zdv,jl],?_⟩;rw[QP];rcases d with⟨rfl,_⟩|⟨_,e⟩
 ·exact i
 ·exact e.trans i
omit f in
theorem Lw {s:Nat} (h:s∈L0 u as):s<u.eh.length/\((∃(v b k:Nat) (x:Vl),At u v b k/\stays as v=true/\u.ef[v]? =some x/\leaves x.op=true/\x.state=s)\/∃(b:Nat) (B:Bk),u.blocks[b]? =some B/\B.fin=3/\B.state=s):=by
 unfold L0 at h;rcases JT.1 h with h|h
 ·obtain⟨n,hn,hs⟩:=List.mem_filterMap.1 h;obtain⟨h1,hs1⟩:=(jl g).1 hn;have hx:=hO h1;rw[hx]at hs;simp only at hs;split at hs
  ·rename_i hl;cases hs;obtain⟨b,k,Kj⟩:=g.FU n h1 (hP.h n hs1);exact⟨g.leave n _ hx hl,by grind⟩
  ·cases hs
 ·obtain ⟨B,hB,hs⟩:=List.mem_filterMap.1 h;obtain⟨b,hb⟩:=nT.1 hB;split at hs
  ·rename_i h3;cases hs;refine⟨?_,by grind⟩;rcases g.fin b B hb with⟨h4,_⟩|⟨h4,_⟩|⟨_,_,h4⟩
   ·omega
   ·omega
   ·exact h4
  ·cases hs
omit g f in
theorem Uy {s:Nat} {fs:List Fm} (h:s∈HR u as) (hs:u.eh[s]? =some fs):(iz u as).eh[(HR u as).idxOf s]? =some (fs.map (Xu u as)):=by
 show((HR u as).map _)[_]? =_
 grind
omit f in
theorem zdo {i:Nat} {gs:List Fm} (h:(iz u as).eh[i]? =some gs):∃s fs,s∈HR u as/\u.eh[s]? =some fs/\gs=fs.map (Xu u as):=by
 have h:((HR u as).map _)[i]? =some gs:=h;rw[AX]at h
 cases hn:(HR u as)[i]? with
 |none=>simp_all
 | some s=>
   rw[hn]at h;have hm:s∈HR u as:=DQ hn;have hl:=(Lw g ((vm _ _).1 hm)).1
   grind
omit g f in
theorem Oc (fs:List Fm):iq (fs.map (Xu u as))=(iq fs).map (nm u as):=by
 unfold iq;rw[List.flatMap_map,List.map_flatMap];congr 1;funext x;rw[PO];rfl
omit f in
theorem zfv {v:Nat} {x:Vl} (hs:stays as v=true) (hx:u.ef[v]? =some x) (hl:leaves x.op=true):x.state∈HR u as:=by
 refine(vm _ _).2 (Yj _ (List.mem_filterMap.2 ⟨v,by grind[jl,kj],?_⟩))
 simp_all
omit g f in
theorem zds {b:Nat} {B:Bk} (hB:u.blocks[b]? =some B) (h3:B.fin=3):B.state∈HR u as:=
 (vm _ _).2 (List.mem_append_right _ (List.mem_filterMap.2 ⟨B,DQ hB,by rw[if_pos h3]⟩))
omit f in
theorem Rp {v b k:Nat} {x:Vl} (h:At u v b k) (hx:u.ef[v]? =some x) (hh:ir x.op=true):∀{w j:Nat} {y:Vl},At u w b j->u.ef[w]? =some y->j<=k->ir y.op=true:=by
 have key:∀(n v k:Nat) (x:Vl),At u v b k->u.ef[v]? =some x->ir x.op=true->∀{w j:Nat} {y:Vl},At u w b j->u.ef[w]? =some y->j+n=k->ir y.op=true:=by
  intro n
  induction n with
  | zero=>
    intro v k x h hx hh w j y hw hy e;obtain rfl:j=k:=by omega
    obtain⟨B,h1,h2⟩:=h;obtain⟨B',h3,h4⟩:=hw
    simp_all
  | succ n ih=>
    intro v k x h hx hh w j y hw hy e;obtain⟨k,rfl⟩:∃i,k=i+1:=⟨k-1,by omega⟩
    obtain⟨B,h1,h2⟩:=h;have hk:k<B.ef.length:=by have:=(kj.1 h2).1;omega
    have h3:At u (B.ef[k]) b k:=⟨B,h1,hO hk⟩
    have hz:=hO (g.jW _ _ _ h3);exact ih _ k _ h3 hz (g.Cs _ _ _ _ _ _ ⟨B,h1,h2⟩ h3 hx hz hh) hw hy (by omega)
 exact λ{w j y} hw hy hj=>key (k-j) v k x h hx hh hw hy (by omega)
theorem XX:Good (iz u as):=by
 have hL:(fK u as).length<=u.ef.length:=jA _ _ (CA g) λv h=>((jl g).1 h).1;have hS:(HR u as).length<=u.eh.length:=jA _ _ (Rl _) λs hs=>(Lw g ((vm _ _).1 hs)).1;have hlen:(iz u as).ef.length=(fK u as).length:=by
  show((fK u as).map _).length=_;rw[EN]
 have J:(iz u as).blocks.length=u.blocks.length:=by
  show(u.blocks.map _).length=_;rw[EN]
 have oV:(iz u as).eh.length=(HR u as).length:=by
  show((HR u as).map _).length=_;rw[EN]
 have V:∀s fs,s∈HR u as->u.eh[s]? =some fs->∀w∈iq fs,0<=as w:=by
  intro s fs hs q w e;rcases(Lw g ((vm _ _).1 hs)).2 with⟨v,b,k,x,_,a,I,C,rfl⟩|⟨b,B,c,a,rfl⟩
  ·exact f.st v x fs I a C q w e
  ·exact f.out b B fs c a q w e
 have l:∀{i b k:Nat} {y:Vl},At (iz u as) i b k->(iz u as).ef[i]? =some y->∃v j x,At u v b j/\stays as v=true/\i=(fK u as).idxOf v/\k=pk u as b j/\u.ef[v]? =some x/\y=iF u as x:=by
  intro i b k y M m;obtain⟨v,j,c,a,I,C,r⟩:=J7 g M;obtain⟨n,x,L,S,W,_⟩:=EF g m;rw[r]at L;cases L;exact by grind
 have R:∀{v b k:Nat},At u v b k->b<u.blocks.length:=λ⟨B,h,_⟩=>(kj.1 h).1
 refine
  { nv:=by rw[hlen];have:=g.nv;omega
    L2:=by rw[J];exact g.L2
    nb:=by rw[J];exact g.nb
    ns:=by rw[oV];have:=g.ns;omega
    st:=?_,FU:=?_,KZ:=?_,jW:=?_,Cs:=?_,par:=?_,Dz:=?_,op:=?_,use:=?_,leave:=?_,putAt:=?_,param:=?_,fin:=?_,nx:=?_,eQ:=?_,Di:=?_,IB:=?_,reach:=?_,DD:=?_,DO:=?_,GW:=?_,El:=?_,Hc:=?_}
 ·intro s gs hs;obtain⟨s0,fs,c,a,rfl⟩:=zdo g hs;obtain⟨I,C,r⟩:=g.st s0 fs a;refine⟨by simpa using I,by simpa using C,λf' X=>?_⟩;obtain⟨N,Y,rfl⟩:=Mv.1 X;obtain⟨Z,h7,h8,h9⟩:=r N Y;have ag:∀w,w∈N.locals\/w∈N.stack->0<=as w:=λw e=>V s0 fs c a w (by
   grind[iq])
  refine⟨by show(N.locals.map _).length<=40;simpa using Z,by show(N.stack.map _).length<=60;simpa using h7,λv hv=>?_,λv hv=>?_⟩
  ·obtain⟨w,e,rfl⟩:=Mv.1 (show v∈N.locals.map (nm u as) from hv)
   grind[M5]
  ·obtain⟨w,e,rfl⟩:=Mv.1 (show v∈N.stack.map (nm u as) from hv)
   grind[M5]
 ·intro i hi _;rw[hlen]at hi;have hn:=hO hi;obtain⟨c,a⟩:=(jl g).1 (DQ hn);obtain⟨b,k,M⟩:=g.FU _ c (hP.h _ a);refine⟨b,pk u as b k,?_⟩;have:=zdv M a
  grind[zdP,CA]
 ·intro i b k b' k' h h';obtain⟨v,j,c,a,I,C,r⟩:=J7 g h;obtain⟨v',j',L,S,W,g4,T⟩:=J7 g h';rw[r]at T;cases T;obtain⟨rfl,rfl⟩:=g.KZ _ _ _ _ _ c L;omega
 ·grind[J7,kj]
 ·intro i i' b k y y' h h' m aa hh;obtain⟨v,j,x,c,a,_,C,r,rfl⟩:=l h m;obtain⟨v',j',x',L,S,_,g4,T,rfl⟩:=l h' aa;show ir x'.op=true;refine Rp g c r hh L T ?_
  grind[zcj]
 ·intro i b k y h m F;obtain⟨v,j,x,c,_,_,_,r,rfl⟩:=l h m;exact g.par v b j x c r F
 ·intro i b k y Q h m F d;obtain⟨v,j,x,c,_,_,_,r,rfl⟩:=l h m;obtain⟨B,A,rfl⟩:=Hb d;obtain⟨Z,h7⟩:=g.Dz v b j x B c r F A;refine⟨Z,?_⟩;have D:x.op=21:=F;show(if x.op=21\/x.op=20 then x.args.map (nm u as) else x.args).length=B.eQ.length
  simp_all
 ·intro i y m;obtain⟨n,x,_,a,rfl,_⟩:=EF g m;exact g.op n x a
 ·intro i y m w e;obtain⟨n,x,_,a,rfl,C⟩:=EF g m;rw[Z0]at e;obtain⟨w0,o,rfl⟩:=Mv.1 e;exact M5 g f (g.use n x a w0 o) (f.use n x a C w0 o)
 ·intro i y m hl;obtain⟨n,x,_,a,rfl,C⟩:=EF g m;have E:leaves x.op=true:=hl;rw[oV];show(if leaves x.op=true then(HR u as).idxOf x.state else x.state)<_;rw[if_pos E]
  grind[wBm,zfv]
 ·intro i y m F;obtain⟨n,x,_,a,rfl,C⟩:=EF g m;have D:x.op=20:=F;show(if x.op=21\/x.op=20 then x.args.map (nm u as) else x.args).length=1;rw[if_pos (.inr D),EN];exact g.putAt n x a D
 ·intro i y m F;obtain⟨n,x,c,a,rfl,C⟩:=EF g m;obtain⟨L,S,W⟩:=g.param n x a F;refine⟨L,S,λw z hz ab ac=>?_⟩;obtain⟨n',x',ae,G,rfl,_⟩:=EF g hz;obtain rfl:=W n' x' G ab ac;exact vY (CA g) ae c
 ·intro b Q d;obtain⟨B,A,rfl⟩:=Hb d;rcases g.fin b B A with⟨c,a⟩|⟨c,a,I⟩|⟨c,a,I⟩
  ·exact .inl ⟨c,a⟩
  ·refine .inr (.inl ⟨c,a,?_⟩);show oJ _ (if B.fin=2 then nm u as B.cond else B.cond);rw[if_pos c];exact M5 g f I (f.cond b B A c)
  ·refine .inr (.inr ⟨c,a,?_⟩);rw[oV];show(if B.fin=3 then(HR u as).idxOf B.state else B.state)<_;rw[if_pos c];exact wBm (zds A c)
 ·intro b t U;rw[YQ]at U;rw[J];exact g.nx b t U
 ·intro b Q d;obtain⟨B,A,rfl⟩:=Hb d;rw[QN];exact g.eQ b B A
 ·rw[QN];exact g.Di
 ·intro b Q d a t U;obtain⟨B,A,rfl⟩:=Hb d;rw[QN];exact g.IB b B A a t U
 ·intro b hb;rw[J]at hb;rw[QP];exact g.reach b hb
 ·intro i b k y h m F w e;obtain⟨v,j,x,c,a,_,rfl,r,rfl⟩:=l h m;rw[Z0]at e;obtain⟨w0,o,rfl⟩:=Mv.1 e;exact Zz g f (g.DD v b j x c r F w0 o) (R c) (f.use v x r a w0 o)
 ·intro i b k y Q h m F d j w p e hp;obtain⟨v,j0,x,c,a,_,rfl,r,rfl⟩:=l h m;obtain⟨B,A,rfl⟩:=Hb d;have D:x.op=21:=F;have e:(if x.op=21\/x.op=20 then x.args.map (nm u as) else x.args)[j]? =some w:=e;rw[if_pos (.inl D),AX]at e
  cases hq:x.args[j]? with
  |none=>simp_all
  | some w0=>
    rw[hq]at e;obtain rfl:nm u as w0=w:=Option.some.inj e;exact Ld g f (g.DO v b j0 x B c r D A j w0 p hq hp) (f.use v x r a w0 (by
      unfold iP
      grind))
 ·intro i b k y gs h m hl H w e;obtain⟨v,j,x,c,a,_,rfl,r,rfl⟩:=l h m;have E:leaves x.op=true:=hl;have O:(iF u as x).state=(HR u as).idxOf x.state:=by
   show(if leaves x.op=true then _ else _)=_;rw[if_pos E]
  have P:=g.leave v x r E;have q:=hO P;rw[O,Uy (by grind) q]at H;cases H;rw[Oc]at e;obtain⟨w0,o,rfl⟩:=Mv.1 e;exact Zz g f (g.GW v b j x _ c r E q w0 o) (R c) (f.st v x _ r a E q w0 o)
 ·intro b Q d a;obtain⟨B,A,rfl⟩:=Hb d;have G:B.fin=2:=a;show rX _ (if B.fin=2 then nm u as B.cond else B.cond) b;rw[if_pos G];exact Ld g f (g.El b B A G) (f.cond b B A G)
 ·intro b Q gs d I H w e;obtain⟨B,A,rfl⟩:=Hb d;have K:B.fin=3:=I;have O:(nz u as B).state=(HR u as).idxOf B.state:=by
   show(if B.fin=3 then _ else _)=_;rw[if_pos K]
  have P:B.state<u.eh.length:=by
   rcases g.fin b B A with⟨C,_⟩|⟨C,_⟩|⟨_,_,C⟩
   ·omega
   ·omega
   ·exact C
  have q:=hO P;rw[O,Uy (zds A K) q]at H;cases H;rw[Oc]at e;obtain⟨w0,o,rfl⟩:=Mv.1 e;exact Ld g f (g.Hc b B _ A K q w0 o) (f.out b B _ A K q w0 o)
end
open Dm
section
variable (u:U)(kp:Nat->Bool)
def jR(b:Nat):Nat:=if kp b=true then((List.range b).filter kp).length else 0
def tx(i:Nat)(ps:List Nat):List Nat:=(List.range ps.length).filter λj=>kp (ps.getD j 0)&&(next u (ps.getD j 0)).contains i
def kR(i:Nat)(ps:List Nat):List Nat:=(tx u kp i ps).map λj=>jR kp (ps.getD j 0)
def pD(i:Nat)(ps args:List Nat):List Nat:=(tx u kp i ps).map λj=>args.getD j 0
def Ph:Bk:=⟨[],0,0,[],[],0⟩
def mz:List Nat:=(List.range u.blocks.length).filter kp
def EE(b:Nat):Bk:={u.blocks.getD b Ph with next:=(u.blocks.getD b Ph).next.map (jR kp),eQ:=kR u kp b (u.blocks.getD b Ph).eQ}
structure Cut (u':U):Prop where
 func:u'.func=u.func
 pc:u'.pc=u.pc
 eh:u'.eh=u.eh
 blocks:u'.blocks=(mz u kp).map (EE u kp)
 len:u'.ef.length=u.ef.length
 Dz:∀(v b k:Nat) (x:Vl) (B:Bk),At u v b k->u.ef[v]? =some x->x.op=21->kp b=true->u.blocks[b]? =some B->u'.ef[v]? =some {x with args:=pD u kp b B.eQ x.args}
 same:∀(v:Nat) (x:Vl),u.ef[v]? =some x->¬(x.op=21/\∃b k,At u v b k/\kp b=true)->u'.ef[v]? =some x
structure My (az mO:List Int):Prop where
 len:mO.length=az.length
 gone:∀(v b k:Nat),At u v b k->kp b=false->v<az.length->mO[v]? =some (-1)
 same:∀(v:Nat),(¬∃b k,At u v b k/\kp b=false)->mO[v]? =az[v]?
end
section
variable{u u':U}{kp:Nat->Bool}
theorem filter_all{p:Nat->Bool}{l:List Nat}(h:∀x∈l,p x=true):l.filter p=l:=List.filter_eq_self.2 h
theorem TW(hk:∀b,b<u.blocks.length->kp b=true) {b:Nat} (a:b<u.blocks.length):jR kp b=b:=by
 unfold jR;rw[if_pos (hk b a),filter_all (by grind),UB]
theorem PE(g:Good u) (hk:∀b,b<u.blocks.length->kp b=true) {b:Nat} {B:Bk} (d:u.blocks[b]? =some B):tx u kp b B.eQ=List.range B.eQ.length:=by
 unfold tx;refine filter_all λj a=>?_;have a:=Ve.1 a;rw[ED,hO a];have hp:B.eQ[j]∈ahead u b:=by rw[<-g.eQ b B d];exact AU a
 obtain⟨q,e,f,h,c⟩:=vM.1 hp;rw[zO]at c;rw[Option.getD_some,c,hk q (by grind),wBc,wBQ]
 grind[next]
theorem ON(l:List Nat) (d:Nat):(List.range l.length).map (λj=>l.getD j d)=l:=by
 refine wBR λj=>?_
 grind
theorem U1(g:Good u) (hk:∀b,b<u.blocks.length->kp b=true) {b:Nat} {B:Bk} (c:u.blocks[b]? =some B):EE u kp b=B:=by
 have e:u.blocks.getD b Ph=B:=by rw[ED,c];rfl
 unfold EE;rw[e];have f:B.next.map (jR kp)=B.next:=by
  have:∀t∈B.next,jR kp t=t:=λt h=>TW hk (g.nx b t (by grind[next]));rw[Yo this,List.map_id''];exact λ_=>rfl
 have i:kR u kp b B.eQ=B.eQ:=by
  unfold kR;rw[PE g hk c];have:∀j∈List.range B.eQ.length,jR kp (B.eQ.getD j 0)=B.eQ.getD j 0:=λj a=>by
   have a:=Ve.1 a;rw[ED,hO a,Option.getD_some];have hp:B.eQ[j]∈ahead u b:=by rw[<-g.eQ b B c];exact AU a
   obtain⟨q,k,f,_,d⟩:=vM.1 hp;rw[zO]at d;rw[d];exact TW hk (by grind)
  rw[Yo this];exact ON _ _
 simp_all
theorem Cut.eq(g:Good u) (hk:∀b,b<u.blocks.length->kp b=true) (c:Cut u kp u'):u' = u:=by
 have m:u'.blocks=u.blocks:=by
  rw[c.blocks,mz,filter_all (by simp_all)];refine wBR λb=>?_;by_cases h:b<u.blocks.length
  ·grind[List.getElem?_range,U1,hO]
  ·simp_all
 have hv:u'.ef=u.ef:=by
  refine wBR λv=>?_;by_cases h:v<u.ef.length
  ·have d:=hO h;generalize u.ef[v]=x at*;rw[d];by_cases hp:x.op=21/\∃b k,At u v b k/\kp b=true
   ·obtain ⟨f,b,k,a,i⟩:=hp;obtain⟨B,j,l⟩:=id a;rw[c.Dz v b k x B a d f i j];have e:pD u kp b B.eQ x.args=x.args:=by
     unfold pD;rw[PE g hk j,<-(g.Dz v b k x B a d f j).2];exact ON _ _
    rw[e]
   ·exact c.same v x d hp
  ·rw[X8 (by rw[c.len];omega),X8 (by omega)]
 have f:=c.func;have n:=c.pc;have o:=c.eh;cases u;cases u'
 simp_all
theorem My.eq{az mO:List Int} (c:My u kp az mO) (hk:∀b,b<u.blocks.length->kp b=true):mO=az:=by
 refine wBR λv=>c.same v ?_;rintro⟨b,k,⟨B,a,_⟩,h⟩
 grind
end
open Dm
theorem OF{l L:List Nat} (h:l <+: L) {v:Nat} (hv:v∈l):L.idxOf v=l.idxOf v:=by
 obtain⟨r,rfl⟩:=h
 grind
theorem Jl(l r:List Nat):mj l <+: mj (l++r):=by
 induction r using NI with
 |h0=>simp_all
 | hs r s a=>
   grind[M6,zw,List.prefix_append]
section
variable{u:U}{as:Nat->Int}
def lC(u:U) (as:Nat->Int) (i j:Nat):List Nat:=(u.blocks.take i).flatMap (λB=>B.ef.filter (stays as))++(match u.blocks[i]? with
 |some B=>(B.ef.take j).filter (stays as)
 |none=>[])
theorem Ms:lC u as 0 0=[]:=by
 grind[lC]
theorem Tf{i:Nat} {B:Bk} (a:u.blocks[i]? =some B):lC u as i B.ef.length=lC u as (i+1) 0:=by
 unfold lC;rw[a];obtain⟨b,rfl⟩:=kj.1 a
 grind[OX,List.flatMap_singleton,Lp,stays]
theorem UY:lC u as u.blocks.length 0=fK u as:=by
 simp_all[lC,fK,Lp,X8,ju,JY]
theorem Mm{i j v:Nat} {B:Bk} (a:u.blocks[i]? =some B) (hv:B.ef[j]? =some v):lC u as i (j+1)=if stays as v=true then lC u as i j++[v] else lC u as i j:=by
 unfold lC;rw[a];obtain⟨b,rfl⟩:=kj.1 hv
 grind[OX,M6]
theorem Jc{i j:Nat} {B:Bk} (a:u.blocks[i]? =some B):lC u as i j <+: fK u as:=by
 unfold lC fK;rw[a];obtain⟨b,rfl⟩:=kj.1 a;have e:u.blocks=u.blocks.take i++u.blocks[i]::u.blocks.drop (i+1):=by
  conv=>lhs;rw[<-Zb i u.blocks]
  rw[Yq b]
 grind[stays,Zb,M6,List.prefix_append]
theorem zdu(b:zbf u) {i j v:Nat} {B:Bk} (a:u.blocks[i]? =some B) (hv:B.ef[j]? =some v) (hs:stays as v=true):(fK u as).idxOf v=(lC u as i j).length/\v ∉ lC u as i j:=by
 have hp:=Jc (as:=as) (j:=j+1) a;rw[Mm a hv,if_pos hs]at hp;have c:=AA (as:=as) b;obtain⟨r,d⟩:=hp
 grind
theorem Iq(a:∀v b k,At u v b k->v<u.ef.length) {v:Nat} (hv:v∈fK u as):v<u.ef.length:=by
 unfold fK at hv;obtain⟨B,c,hv⟩:=Yk.1 hv;obtain⟨b,d⟩:=nT.1 c;obtain⟨k,hk⟩:=nT.1 (LC.1 hv).1;exact a v b k ⟨B,d,hk⟩
theorem Sv{n:Nat} (h:∀v,v<n->as v<(n:Int)):∀(k v:Nat),v<n->yu as k v<n
 |0,_,hv=>hv
 | k + 1,v,hv=>by
   unfold yu;split
   ·rename_i a
    exact Sv h k _ (by simp_all)
   ·exact hv
def sX(u:U) (l:List Nat):List Nat:=l.filterMap λn=>match u.ef[n]? with
 |some x=>if leaves x.op=true then some x.state else none
 |none=>none
def CD(l:List Bk):List Nat:=l.filterMap λB=>if B.fin=3 then some B.state else none
theorem Qi:L0 u as=sX u (fK u as)++CD u.blocks:=rfl
end
open Dm
def zgh(u:U) (v:Nat):Prop:=(∃x,u.ef[v]? =some x/\(x.op=19\/x.op=20\/x.op=22\/x.op=23))\/ (∃(i:Nat) (x:Vl) (fs:List Fm),u.ef[i]? =some x/\leaves x.op=true/\u.eh[x.state]? =some fs/\v∈iq fs)\/ (∃(b:Nat) (B:Bk),u.blocks[b]? =some B/\B.fin=2/\v=B.cond)\/ (∃(b:Nat) (B:Bk) (fs:List Fm),u.blocks[b]? =some B/\B.fin=3/\u.eh[B.state]? =some fs/\v∈iq fs)
inductive Live (u:U):Nat->Prop
 |root {v:Nat} (h:zgh u v):Live u v
 |use {v w:Nat} {x:Vl} (h:Live u v) (a:u.ef[v]? =some x) (b:w∈iP x):Live u w
def AL(l:List Vl):Prop:=∀x∈l,x.args.length<=2
section
variable{ops:List Int}
theorem PL:∀(i:Nat) (s:Ds) (l:List Nat),(some_ ops i s l).2.ef=s.ef
 |0,_,_=>rfl
 | i+1,s,l=>by
   unfold some_;rw[PL i];rfl
theorem CB(s:Ds):(fH ops s).2.ef=s.ef:=by
 show(some_ ops (num ops s 4).1 (num ops s 4).2 []).2.ef=s.ef;rw[PL];rfl
theorem Ly{s:Ds} {x:Vl} (h:AL s.ef) (c:x.args.length<=2):AL (put s x).ef:=λy a=>by
 have a:y∈s.ef++[x]:=a;rcases JT.1 a with b|b
 ·exact h y b
 simp_all
theorem AJ{s:Ds}{x:Vl}(h:AL s.ef)(a:x.args.length<=2):AL (jh s x).ef:=Ly h a
theorem zag{s:Ds} {k a b:Nat} (h:AL s.ef):AL (tq ops s k a b).ef:=by
 have hs:AL (fH ops s).2.ef:=by rw[CB];exact h
 unfold tq;by_cases c:k<12
 ·simp_all[if_pos,AJ,vl]
 rw[if_neg c];by_cases c:k=12
 ·simp_all[if_pos,AJ,num,vl]
 rw[if_neg c];by_cases c:k=13
 ·simp_all[if_pos,AJ,num,vl]
 rw[if_neg c];by_cases c:k=14
 ·simp_all[if_pos,AJ,vl]
 rw[if_neg c];by_cases c:k=15
 ·simp_all[if_pos,Ly,num,vl]
 rw[if_neg c];by_cases c:k=16
 ·simp_all[if_pos,Ly,fL,vl]
 rw[if_neg c];by_cases c:k=17
 ·simp_all[if_pos,Ly,vl]
 rw[if_neg c];by_cases c:k=18
 ·simp_all[if_pos,Ly,vl]
 simp_all[if_neg,AJ,num,vl]
theorem VB{s:Ds}(h:AL s.ef):AL (vf ops s).ef:=zag h
theorem Wb:∀(i:Nat) (s:Ds),AL s.ef->AL (rows ops i s).ef
 |0,_,h=>h
 | i+1,s,h=>by
   unfold rows;split
   ·exact Wb i _ (VB h)
   ·exact h
theorem GG{s:Ds}(h:AL s.ef):AL (row ops s).ef:=Wb _ _ h
theorem Og{s:Ds} {v:Nat} {l:List Nat} (h:AL s.ef) (a:l.length<=2):AL (setArgs s v l).ef:=λy b=>by
 obtain⟨i,hi⟩:=nT.1 b;have hi:(s.ef.modify v λx=>{x with args:=l})[i]? =some y:=hi;rw[List.getElem?_modify]at hi
 cases hx:s.ef[i]? with
 |none=>simp_all
 | some x=>
   rw[hx]at hi;have hi:some (if v=i then{x with args:=l} else x)=some y:=hi;have:=Option.some.inj hi;subst this;split
   ·exact a
   ·exact h x (DQ hx)
theorem zbl{t:Dt} (h:AL t.s.ef):AL (fork ops t).s.ef:=by
 unfold fork;refine GG (AJ ?_ (by simp[vl]));refine GG (s:=(end_ _ _ _ _ _ _).s) ?_;exact GG (s:=(end_ _ _ _ _ _ _).s) h
theorem zbM{t:Dt} (h:AL t.s.ef):AL (zo ops t).s.ef:=by
 unfold zo;refine GG (s:=(end_ _ _ _ _ _ _).s) ?_;show AL (fH ops _).2.ef;rw[CB];exact GG (s:=(end_ _ _ _ _ _ _).s) h
theorem zaR{t:Dt} (h:AL t.s.ef):AL (loop ops t).s.ef:=by
 unfold loop;refine GG (s:=(end_ _ _ _ _ _ _).s) ?_;refine Og (s:=_) ?_ (by simp);have c:∀(a:Ds) (p:Nat) (l b:List Nat),l.length<=2->b.length<=2->AL a.ef->AL (if(num ops (setArgs a p l) 3).1=0 then setArgs (num ops (setArgs a p l) 3).2 p b else(num ops (setArgs a p l) 3).2).ef:=by grind[Og,num,setArgs]
 grind[GG,end_,AJ,Ly,vl,CB,fL]
theorem Qn:∀(l:List Int) (t:Dt),AL t.s.ef->AL (mi ops l t).s.ef
 |[],_,h=>h
 | k ::l,t,h=>by
   unfold mi;split
   ·refine Qn l _ ?_
    grind[vn,zbl,zaR,zbM]
   ·exact h
theorem PN:∀(n i:Nat) (s:Ds),AL s.ef->AL (params n i s).ef
 |0,_,_,h=>h
 |n+1,i,s,h=>PN n (i+1) _ (by grind[AJ,vl])
theorem zbx(ops a:List Int) (n:Int):AL (Ji ops a n).ef:=by
 unfold Ji;show AL (fH ops _).2.ef;rw[CB];refine Qn _ _ ?_;exact GG (AJ (PN _ _ _ (λ_ h=>nomatch h)) (by simp[vl]))
end
open Dm
def Vr(nx:Nat->List Nat)(FP:Int)(b:Nat):Prop:=∃l,Pt nx b l/\∀x∈l,(x:Int)≠FP
theorem X1{nx:Nat->List Nat} {a b:Nat}:¬Vr nx (a:Int) b↔qM nx a b:=by
 constructor
 ·intro h l c;refine Classical.byContradiction λf=>h ⟨l,c,λx d e=>f ?_⟩
  grind
 ·rintro h ⟨l,c,d⟩;exact d a (h l c) rfl
structure Wo (n:Nat) (nx:Nat->List Nat) (FP:Int) (c:Option (Nat×Nat)) (seen:List Bool) (todo:List Nat):Prop where
 len:seen.length=n
 zero:seen[0]? =some true
 sound:∀v:Nat,seen[v]? =some true->Vr nx FP v
 work:∀v∈todo,seen[v]? =some true
 closed:∀v:Nat,seen[v]? =some true->v∈todo\/∀(k t:Nat),(nx v)[k]? =some t->(t:Int)≠FP->seen[t]? =some true\/∃j,c=some (v,j)/\j<=k
 less:todo.length+seen.count false<=n
theorem count_set{l:List Bool}:∀{v:Nat},l[v]? =some false->(l.set v true).count false+1=l.count false:=by
 grind
section
variable{n:Nat}{nx:Nat->List Nat}{FP:Int}{seen:List Bool}{todo:List Nat}
theorem Wo.start(b:0<n) (h0:FP≠0):Wo n nx FP none ((List.replicate n false).set 0 true) [0]:=by
 have hs:∀v:Nat,((List.replicate n false).set 0 true)[v]? =some true->v=0:=λv hv=>by
  grind
 have a:((List.replicate n false).set 0 true)[0]? =some true:=by simp_all
 refine⟨by simp,a,λv hv=>?_,λv hv=>?_,by simp_all,?_⟩
 ·rw[hs v hv];exact⟨[0],.nil,by grind⟩
 ·simp_all
 grind
theorem Wo.pop{b:Nat} (w:Wo n nx FP none seen (b::todo)):Wo n nx FP (some (b,0)) seen todo/\Vr nx FP b:=by
 have a:=w.less;rw[Rb]at a;refine⟨⟨w.len,w.zero,w.sound,λv hv=>w.work v (by simp[hv]),λv hv=>?_,by omega⟩,w.sound b (w.work b (by simp))⟩;rcases w.closed v hv with h|h
 ·grind
 grind
theorem Wo.skip{b j t:Nat} (w:Wo n nx FP (some (b,j)) seen todo) (c:(nx b)[j]? =some t) (h:(t:Int)=FP\/seen[t]? =some true):Wo n nx FP (some (b,j+1)) seen todo:=by
 refine⟨w.len,w.zero,w.sound,w.work,λv hv=>?_,w.less⟩;rcases w.closed v hv with a|a
 ·simp_all
 grind
theorem Wo.push{b j t:Nat} (w:Wo n nx FP (some (b,j)) seen todo) (d:(nx b)[j]? =some t) (e:Vr nx FP b) (k:(t:Int)≠FP) (c:seen[t]? =some false):Wo n nx FP (some (b,j+1)) (seen.set t true) (todo++[t]):=by
 have f:=(kj.1 c).1;have a:(seen.set t true)[t]? =some true:=by simp_all
 have up:∀v:Nat,seen[v]? =some true->(seen.set t true)[v]? =some true:=by grind
 have down:∀v:Nat,(seen.set t true)[v]? =some true->v=t\/seen[v]? =some true:=by grind
 refine⟨by rw[MC];exact w.len,up 0 w.zero,λv hv=>?_,λv hv=>?_,λv hv=>?_,?_⟩
 ·rcases down v hv with rfl|h
  ·obtain⟨l,g,m⟩:=e;exact⟨v::l,.step g (DQ d),by simp_all⟩
  ·exact w.sound v h
 ·rcases JT.1 hv with h|h
  ·exact up v (w.work v h)
  simp_all
 ·rcases down v hv with rfl|h
  ·simp_all
  ·rcases w.closed v h with i|i
   ·simp_all
   grind
 ·have:=count_set c;have:=w.less
  grind
theorem Wo.next{b:Nat} (w:Wo n nx FP (some (b,(nx b).length)) seen todo):Wo n nx FP none seen todo:=by
 refine⟨w.len,w.zero,w.sound,w.work,λv hv=>(w.closed v hv).imp id λh k t hk a=>?_,w.less⟩
 grind
theorem Wo.all(w:Wo n nx FP none seen []):∀{b:Nat} {l:List Nat},Pt nx b l->(∀x∈l,(x:Int)≠FP)->seen[b]? =some true
 |_,_,.nil,_=>w.zero
 | _,_,.step (p:=p) h e,hx=>by
   have c:=w.all h (by simp_all);obtain⟨k,hk⟩:=nT.1 e;rcases w.closed p c with a|a
   ·cases a
   grind
theorem Wo.iff(w:Wo n nx FP none seen []) (b:Nat):seen[b]? =some true↔Vr nx FP b:=
 ⟨w.sound b,λ⟨_,a,c⟩=>w.all a c⟩
theorem XA{b:Nat} (h:FP=0):¬Vr nx FP b:=by
 rintro⟨l,a,c⟩;have:0∈l:=by
  clear c
  induction a with
  |nil=>simp_all
  |step _ _ d=>simp_all
 grind
end
open Dm
def qo(n:Int):Int:=n % 18446744073709551616
def vg(n:Int):Int:=if n<9223372036854775808 then n else n-18446744073709551616
def Jj(b:Bool):Int:=if b=true then 1 else 0
def BC(op:Nat) (a b:Int):Int:=
 if op=3 then qo (a+b) else if op=4 then qo (a-b) else if op=5 then qo (a*b)
 else if op=6 then(if vg b=0 then 0 else if vg b = -1 then qo (-a) else qo ((vg a).tdiv (vg b)))
 else if op=7 then(if vg b=0\/vg b = -1 then 0 else qo ((vg a).tmod (vg b)))
 else if op=8 then qo (-a) else if op=9 then Jj (decide (a=0)) else if op=10 then Jj (decide (a=b)) else if op=11 then Jj (decide (a≠b))
 else if op=12 then Jj (decide (vg a<vg b)) else if op=13 then Jj (decide (vg a<=vg b)) else if op=14 then Jj (decide (a<b)) else 0
def uo(h:List Int)(a:Int):Int:=h.getD a.toNat 0
def NG(h:List Int)(a v:Int):List Int:=if a=0 then h else h.set a.toNat v
def Hg(x:Vl) (val:Nat->Int) (h:List Int):Int:=
 if x.op=2 then qo x.n else if x.op=15 then uo h (val x.a) / 4294967296 else if x.op=16 then uo h (val x.a) % 4294967296
 else if x.op=17 then uo h (qo (val x.a+qo x.n)) else if x.op=18 then uo h (qo (qo (val x.a+1)+val x.b))
 else if x.op=8\/x.op=9 then BC x.op (val x.a) 0 else BC x.op (val x.a) (val x.b)
structure Rs where
 val:List Int
 heap:List Int
 steps:Nat
 polls:Nat
def Rs.of(s:Rs)(v:Nat):Int:=s.val.getD v 0
structure Fw where
 func:Int
 pc:Int
 locals:List Int
 stack:List Int
inductive Ex where
 |Ac
 |left (steps:Nat) (fr:List Fw) (heap:List Int)
 |stuck
def rz(u:U)(s:Rs)(st:Nat):Ex:= .left s.steps (((u.eh[st]?).getD []).map λf=>⟨f.func,f.pc,f.locals.map s.of,f.stack.map s.of⟩) s.heap
def qk(u:U) (gw:Int) (n:Nat) (x:Vl) (s:Rs):Ex ⊕ Rs:=
 if x.op=19 then .inr {s with heap:=NG s.heap (qo (s.of x.a+qo x.n)) (s.of x.b),steps:=s.steps+1}
 else if x.op=20 then .inr {s with heap:=NG s.heap (qo (qo (s.of x.a+1)+s.of x.b)) (s.of (x.args.getD 0 0)),steps:=s.steps+1}
 else if x.op=22 then(if s.of x.a=0 then .inl (rz u {s with steps:=s.steps+1} x.state) else .inr {s with steps:=s.steps+1})
 else if x.op=23 then(if 0<=gw/\(s.polls:Int)=gw then .inl (rz u {s with steps:=s.steps+1} x.state) else .inr {s with steps:=s.steps+1,polls:=s.polls+1})
 else .inr {s with val:=s.val.set n (Hg x s.of s.heap),steps:=s.steps+1}
def oW(u:U) (gw:Int) (fuel:Nat):List Nat->Rs->Ex ⊕ Rs
 |[],s=> .inr s
 | n ::l,s=>if fuel<=s.steps then .inl .Ac else match u.ef[n]? with
   |none=> .inl .stuck
   | some x=>match qk u gw n x s with
     | .inl e=> .inl e
     | .inr s=>oW u gw fuel l s
def fR(u:U) (v:Nat):Bool:=match u.ef[v]? with
 |some x=>ir x.op
 |none=>false
def ta(u:U) (locals:List Int) (mN:Option Nat) (B:Bk) (val:Nat->Int) (v:Nat):Int:=match u.ef[v]? with
 | some x=>if x.op=1 then locals.getD x.n.toNat 0 else match mN with
   | some p=>match B.eQ.findIdx? (·== p)with
     |some j=>val (x.args.getD j 0)
     |none=>0
   |none=>0
 |none=>0
def xB(val:List Int)(l:List (Nat×Int)):List Int:=l.foldl (λa p=>a.set p.1 p.2) val
def kP(u:U) (locals:List Int) (mN:Option Nat) (B:Bk) (s:Rs):Rs:=
 let hs:=B.ef.takeWhile (fR u)
 {s with val:=xB s.val (hs.map λv=>(v,ta u locals mN B s.of v)),steps:=s.steps+hs.length}
def pT(B:Bk)(s:Rs):Option Nat:=if B.fin=1 then B.next[0]? else if B.fin=2 then(if s.of B.cond=0 then B.next[1]? else B.next[0]?) else none
def runM(u:U) (locals:List Int) (gw:Int) (fuel:Nat):Nat->Option Nat->Nat->Rs->Ex
 |0,_,_,_=> .stuck
 | Cu+1,mN,b,s=>match u.blocks[b]? with
   |none=> .stuck
   | some B=>match oW u gw fuel (B.ef.dropWhile (fR u)) (kP u locals mN B s)with
     | .inl e=>e
     | .inr s=>if fuel<=s.steps then .Ac else if B.fin=3 then rz u {s with steps:=s.steps+1} B.state else match pT B s with
       |none=> .stuck
       |some t=>runM u locals gw fuel Cu (some b) t {s with steps:=s.steps+1}
def qx(u:U)(heap:List Int):Rs:=⟨List.replicate u.ef.length 0,heap,0,0⟩
def Ex.As:Ex->Ex->Prop
 | .left n fr h,.left n' fr' h'=>n'<=n/\fr' = fr/\h' = h
 | .left _ _ _,_=>False
 |_,_=>True
section
variable{u:U}{as:Nat->Int}
structure Alike (u:U) (as:Nat->Int) (s s':Rs):Prop where
 len:s.val.length=u.ef.length
 FD:s'.val.length=(fK u as).length
 val:∀v∈fK u as,s'.of ((fK u as).idxOf v)=s.of v
 heap:s'.heap=s.heap
 steps:s'.steps<=s.steps
 polls:s'.polls=s.polls
structure Way (u:U) (as:Nat->Int) (locals:List Int) (gw:Int) (heap:List Int) (I:Nat->Nat->Rs->Prop):Prop where
 start:∀B:Bk,u.blocks[0]? =some B->I 0 (B.ef.takeWhile (fR u)).length (kP u locals none B (qx u heap))
 Cs:∀(b t:Nat) (B T:Bk) (s:Rs),u.blocks[b]? =some B->u.blocks[t]? =some T->t∈B.next->I b B.ef.length s->s.val.length=u.ef.length->I t (T.ef.takeWhile (fR u)).length (kP u locals (some b) T {s with steps:=s.steps+1})
 one:∀(b k v:Nat) (x:Vl) (s a:Rs),At u v b k->u.ef[v]? =some x->fR u v=false->I b k s->s.val.length=u.ef.length->qk u gw v x s = .inr a->I b (k+1) a
 use:∀(b k w:Nat) (r:Nat) (s:Rs),I b k s->s.val.length=u.ef.length->BI u w b k->as w=(r:Int)->s.of r=s.of w
theorem DZ{l:List Int} {i j:Nat} {x:Int} (hi:i<l.length):(l.set i x).getD j 0=if j=i then x else l.getD j 0:=by
 grind
theorem A7(l:List (Nat×Int)):∀val:List Int,(xB val l).length=val.length:=by
 induction l with
 |nil=>exact λ_=>rfl
 | cons p l a=>
   grind[xB,MC]
theorem A6{f:Nat->Int} {j:Nat}:∀(l:List Nat) (val:List Int),(∀v∈l,v<val.length)->(xB val (l.map λv=>(v,f v))).getD j 0=if j∈l then f j else val.getD j 0
 |[],_,_=>by rfl
 | v::l,val,h=>by
   show(xB (val.set v (f v)) (l.map λv=>(v,f v))).getD j 0=_;rw[A6 l _ (by simp_all),DZ (by simp_all)]
   grind
end
theorem vx{u:U} {w b:Nat} {B:Bk} (d:u.blocks[b]? =some B) (h:rX u w b):BI u w b B.ef.length:=by
 obtain⟨c,j,a,f⟩:=h;refine⟨c,j,a,?_⟩;by_cases e:c=b
 ·subst e;obtain⟨g,i,k⟩:=a
  grind
 simp_all
section
variable{u:U}{P:Nat->Prop}{as:Nat->Int}[hP:V1 P as] (g:Gd u P)(f:Fit u as){I:Nat->Nat->Rs->Prop}{locals:List Int}{gw:Int}{heap:List Int}(W:Way u as locals gw heap I)
include g f W
theorem Q0{b k w:Nat} {s s':Rs} (e:I b k s) (d:Alike u as s s') (hs:BI u w b k) (h0:0<=as w):s'.of (nm u as w)=s.of w:=by
 obtain⟨c,j,a,_⟩:=id hs;obtain⟨r,h,i,l⟩:=WS g f (g.jW _ _ _ a) h0;rw[l,d.val r i];exact W.use b k w r s e d.len hs h
theorem OS{b k st:Nat} {s s':Rs} {fs:List Fm} (h:I b k s) (d:Alike u as s s') (f:st∈HR u as) (c:u.eh[st]? =some fs) (hs:∀w∈iq fs,BI u w b k/\0<=as w) :
  ∃fr,rz u {s with steps:=s.steps+1} st = .left (s.steps+1) fr s.heap/\rz (iz u as) {s' with steps:=s'.steps+1} ((HR u as).idxOf st) = .left (s'.steps+1) fr s.heap:=by
 refine ⟨_,rfl,?_⟩;unfold rz;rw[Uy f c,c,d.heap];simp only[Option.getD_some,List.map_map];congr 1;refine Yo λa g=>?_;have e:∀l:List Nat,(∀w∈l,w∈iq fs)->(l.map (nm u as)).map s'.of=l.map s.of:=λl i=>by
  grind[List.map_map,Yo,Q0]
 show Fw.mk a.func a.pc ((a.locals.map (nm u as)).map s'.of) ((a.stack.map (nm u as)).map s'.of)=_;rw[e a.locals (by grind[iq,Yj]),e a.stack (by grind[iq,List.mem_append_right])];rfl
variable (FX:∀(v b k:Nat)(x:Vl),At u v b k->u.ef[v]? =some x->stays as v=false->x.op≠19/\x.op≠20/\(x.op=22->∀s,I b k s->s.of x.a≠0)/\x.op≠23)
include FX
omit g f W FX in
theorem EK {x:Vl}:(two x.op=true->x.op≠21->x.a∈iP x/\x.b∈iP x)/\(nW x.op=true->x.op≠21->x.a∈iP x):=by
 constructor
 ·intro h h1;unfold iP
  grind
 ·intro h h1;unfold iP
  grind
omit FX in
theorem zdI {b k v:Nat} {x:Vl} {s s':Rs} (Kj:At u v b k) (hx:u.ef[v]? =some x) (hh:fR u v=false) (hst:stays as v=true) (hI:I b k s) (ha:Alike u as s s') :
  (∀n fr hp,qk u gw v x s = .inl (.left n fr hp)->∃n',n'<=n/\qk (iz u as) gw ((fK u as).idxOf v) (iF u as x) s' = .inl (.left n' fr hp))/\
  (∀s1,qk u gw v x s = .inr s1->∃s1',qk (iz u as) gw ((fK u as).idxOf v) (iF u as x) s' = .inr s1'/\Alike u as s1 s1'):=by
 have h21:x.op≠21:=by grind[fR,ir]
 have hvl:=(kj.1 hx).1;have hm:v∈fK u as:=(jl g).2 ⟨hvl,hst⟩;have eu:∀w∈iP x,s'.of (nm u as w)=s.of w:=λw hw=>Q0 g f W hI ha (g.DD v b k x Kj hx h21 w hw) (f.use v x hx hst w hw);have ea:two x.op=true\/nW x.op=true->s'.of (iF u as x).a=s.of x.a:=λh=>by
  have:(iF u as x).a=nm u as x.a:=by
   show(if _ then nm u as x.a else x.a)=_;rcases h with h|h
   ·simp_all
   ·grind
  grind[EK]
 have eb:two x.op=true->s'.of (iF u as x).b=s.of x.b:=by simp_all[iF,nm,if_pos,EK]
 have hop:=g.op v x hx;have stp:=ha.steps;have pol:=ha.polls;have hp:=ha.heap;have goH:∀(q q':List Int),q' = q->Alike u as {s with heap:=q,steps:=s.steps+1} {s' with heap:=q',steps:=s'.steps+1}:=λq q' e=>⟨ha.len,ha.FD,ha.val,e,by simp only;omega,pol⟩
 have lv:leaves x.op=true->∃fs,u.eh[x.state]? =some fs/\(iF u as x).state=(HR u as).idxOf x.state/\x.state∈HR u as/\∀w∈iq fs,BI u w b k/\0<=as w:=λhl=>by
  have hs0:=g.leave v x hx hl;have hfs:=hO hs0;exact⟨_,hfs,if_pos hl,zfv g hst hx hl,λw hw=>⟨g.GW v b k x _ Kj hx hl hfs w hw,f.st v x _ hx hst hl hfs w hw⟩⟩
 unfold qk;rw[show(iF u as x).op=x.op from rfl,show(iF u as x).n=x.n from rfl];by_cases h19:x.op=19
 ·have e2:two x.op=true:=by rw[h19];rfl
  simp_all
 rw[if_neg h19,if_neg h19];by_cases h20:x.op=20
 ·have e2:two x.op=true:=by rw[h20];rfl
  rw [if_pos h20,if_pos h20];refine⟨λ_ _ _ h=>(nomatch h),λs1 h=>?_⟩;cases h;refine⟨_,rfl,goH _ _ ?_⟩;have hl:=g.putAt v x hx h20;have eC:s'.of ((iF u as x).args.getD 0 0)=s.of (x.args.getD 0 0):=by
   have:(iF u as x).args=x.args.map (nm u as):=if_pos (.inr h20);rw[this]
   match hq:x.args,hl with
   | [w],_=>
     simp_all[iP,if_neg,if_pos]
  simp_all
 rw[if_neg h20,if_neg h20];by_cases h22:x.op=22
 ·have e1:nW x.op=true:=by rw[h22];rfl
  rw[if_pos h22,if_pos h22,ea (.inr e1)];obtain⟨fs,l1,l2,l3,l4⟩:=lv (by rw[h22];rfl);by_cases hz:s.of x.a=0
  ·rw[if_pos hz,if_pos hz];refine⟨λn fr q h=>?_,λ_ h=>(nomatch h)⟩;obtain⟨fr',g1,g2⟩:=OS g f W hI ha l3 l1 l4
   grind
  simp_all
 rw[if_neg h22,if_neg h22];by_cases h23:x.op=23
 ·rw [if_pos h23,if_pos h23,pol];obtain⟨fs,l1,l2,l3,l4⟩:=lv (by rw[h23];rfl);by_cases hz:0<=gw/\(s.polls:Int)=gw
  ·rw[if_pos hz,if_pos hz];refine⟨λn fr q h=>?_,λ_ h=>(nomatch h)⟩;obtain⟨fr',g1,g2⟩:=OS g f W hI ha l3 l1 l4
   grind
  ·rw[if_neg hz,if_neg hz];refine⟨λ_ _ _ h=>(nomatch h),λs1 h=>?_⟩;cases h;exact⟨_,rfl,ha.len,ha.FD,ha.val,hp,by simp only;omega,by simp only⟩
 rw [if_neg h23,if_neg h23];refine⟨λ_ _ _ h=>(nomatch h),λs1 h=>?_⟩;cases h;have eV:Hg (iF u as x) s'.of s'.heap=Hg x s.of s.heap:=by
  have h1:x.op≠1:=by grind[fR,ir]
  unfold Hg;rw[show(iF u as x).op=x.op from rfl,show(iF u as x).n=x.n from rfl,hp];have ht:x.op≠2->two x.op=true\/nW x.op=true:=λh2=>by
   unfold two nW;simp only[RC,yl,A4,IE];omega
  by_cases h2:x.op=2
  ·rw[if_pos h2,if_pos h2]
  rw [if_neg h2,if_neg h2,ea (ht h2)];have htw:x.op≠15->x.op≠16->x.op≠17->¬(x.op=8\/x.op=9)->two x.op=true:=λa1 a2 a3 a4=>by
   unfold two;simp only[RC,yl,A4,IE];omega
  by_cases h15:x.op=15
  ·rw[if_pos h15,if_pos h15]
  rw[if_neg h15,if_neg h15];by_cases h16:x.op=16
  ·rw[if_pos h16,if_pos h16]
  rw[if_neg h16,if_neg h16];by_cases h17:x.op=17
  ·rw[if_pos h17,if_pos h17]
  rw[if_neg h17,if_neg h17];by_cases h18:x.op=18
  ·simp_all
  rw[if_neg h18,if_neg h18];by_cases h89:x.op=8\/x.op=9
  ·rw[if_pos h89,if_pos h89]
  ·simp_all
 rw[eV];refine⟨_,rfl,by simp only[MC];exact ha.len,by simp only[MC];exact ha.FD,λw hw=>?_,hp,by simp only;omega,pol⟩;show(s'.val.set _ _).getD _ 0=(s.val.set _ _).getD _ 0;rw[DZ (by rw[ha.FD];exact wBm hm),DZ (by rw[ha.len];exact hvl)];by_cases e:w=v
 ·subst e;rw[if_pos rfl,if_pos rfl]
 ·rw[if_neg e,if_neg λh=>e (QE hw hm h)];exact ha.val w hw
theorem V3{fuel b:Nat} {B:Bk} (A:u.blocks[b]? =some B):∀(l:List Nat) (k:Nat) (s s':Rs),B.ef.drop k=l->k+l.length=B.ef.length->(∀v∈l,fR u v=false)->I b k s->Alike u as s s'->
  (∀n fr hp,oW u gw fuel l s = .inl (.left n fr hp)->∃q,q<=n/\oW (iz u as) gw fuel ((l.filter (stays as)).map (fK u as).idxOf) s' = .inl (.left q fr hp))/\
  (∀c,oW u gw fuel l s = .inr c->∃a,oW (iz u as) gw fuel ((l.filter (stays as)).map (fK u as).idxOf) s' = .inr a/\Alike u as c a/\I b B.ef.length c)
 | [],k,s,s',hl,hk,_,hI,ha=>by
   refine⟨λn fr hp h=>(nomatch h),λc h=>?_⟩;cases h;have hk:k=B.ef.length:=by simpa using hk
   subst hk
   exact⟨s',rfl,ha,hI⟩
 | v ::l,k,s,s',hl,hk,hh,hI,ha=>by
   have o:k<B.ef.length:=by rw[Rb]at hk;omega
   rw[Yq o]at hl;obtain⟨hv,r⟩:=List.cons.inj hl;have d:At u v b k:=⟨B,A,by rw[<-hv];exact hO o⟩
   have p:=g.jW _ _ _ d;have j:=hO p;generalize u.ef[v]=x at j;have i:=hh v (by simp);have t:=λ(c a:Rs) (y:I b (k+1) c) (z:Alike u as c a)=>V3 A (fuel:=fuel) l (k+1) c a r (by grind) (by simp_all) y z;show(∀n fr hp,(if fuel<=s.steps then _ else _)=_->_)/\(∀c,(if fuel<=s.steps then _ else _)=_->_);by_cases hf:fuel<=s.steps
   ·simp_all
   rw[if_neg hf,j];simp only;have C:=ha.steps
   cases hst:stays as v with
   | true=>
     have D:v∈fK u as:=by grind[jl]
     have e:((v::l).filter (stays as)).map (fK u as).idxOf=(fK u as).idxOf v::(l.filter (stays as)).map (fK u as).idxOf:=by rw[wB0,if_pos hst];rfl
     rw[e];show(∀n fr hp,_->∃q,q<=n/\(if fuel<=s'.steps then _ else _)=_)/\(∀c,_->∃a,(if fuel<=s'.steps then _ else _)=_/\_);rw[if_neg (by omega),Rg (HX D) j];simp only;obtain⟨K,E⟩:=zdI g f W d j i hst hI ha
     cases hq:qk u gw v x s with
     | inl e=>
       grind
     | inr c=>
       obtain⟨a,F,G⟩:=E _ hq;rw[F]
       exact t c a (W.one b k v x s c d j i hI ha.len hq) G
   | false=>
     have e:((v::l).filter (stays as)).map (fK u as).idxOf=(l.filter (stays as)).map (fK u as).idxOf:=by rw[wB0,if_neg (by simp_all)]
     rw[e];obtain⟨d1,d2,d3,H⟩:=FX v b k x d j hst;by_cases m:x.op=22
     ·have hq:qk u gw v x s = .inr {s with steps:=s.steps+1}:=by
        unfold qk;rw[if_neg d1,if_neg d2,if_pos m,if_neg (d3 m s hI)]
      rw[hq];exact t _ s' (W.one b k v x s _ d j i hI ha.len hq) ⟨ha.len,ha.FD,ha.val,ha.heap,by simp only;omega,ha.polls⟩
     have hq:qk u gw v x s = .inr {s with val:=s.val.set v (Hg x s.of s.heap),steps:=s.steps+1}:=by
       unfold qk;rw[if_neg d1,if_neg d2,if_neg m,if_neg H]
     rw[hq];refine t _ s' (W.one b k v x s _ d j i hI ha.len hq) ⟨by simp only[MC];exact ha.len,ha.FD,λw J=>?_,ha.heap,by grind,ha.polls⟩;rw[ha.val w J];show _=(s.val.set _ _).getD _ 0;rw[DZ (by rw[ha.len];exact p),if_neg (by grind[jl])];rfl
omit f W FX in
theorem Fq {b:Nat} {B:Bk} (hB:u.blocks[b]? =some B):∀v∈B.ef.dropWhile (fR u),fR u v=false:=by
 have e:=wAt (p:=fR u) (l:=B.ef)
 cases hd:B.ef.dropWhile (fR u)with
 |nil=>simp_all
 | cons w r=>
   have hw:fR u w=false:=by
     have:=List.head?_dropWhile_not (fR u) B.ef;rw[hd]at this;simpa using this
   intro v hv
   cases hq:fR u v with
   |false=>rfl
   | true=>
     exfalso;rw[hd]at e;generalize B.ef.takeWhile (fR u)=hs at e;obtain⟨n,hn⟩:=nT.1 hv;have a1:At u v b (hs.length+n):=⟨B,hB,by rw[<-e,Zo (by omega)];rw[wBd];exact hn⟩
     have a2:At u w b hs.length:=⟨B,hB,by rw[<-e,Zo (by omega),Nat.sub_self];rfl⟩
     have hx:=hO (g.jW _ _ _ a1);have hy:=hO (g.jW _ _ _ a2)
     grind[fR,Rp]
omit g f W FX in
theorem Lb {p:Nat->Bool} {x:Nat}:∀{l:List Nat},x∈l.takeWhile p->p x=true
 |[],h=>by cases h
 | a ::l,h=>by
   rw[List.takeWhile_cons]at h;split at h
   ·rename_i ha
    rcases Pd.1 h with rfl|h
    ·exact ha
    ·exact Lb h
   ·cases h
omit g f W FX in
theorem IZ {p:Nat->Bool}:∀{a b:List Nat},(∀x∈a,p x=true)->(∀x∈b,p x=false)->(a++b).takeWhile p=a/\(a++b).dropWhile p=b
 | [],b,_,hb=>by
   cases b <;> simp_all
 | x::a,b,ha,hb=>by
   obtain⟨h1,h2⟩:=IZ (a:=a) (b:=b) (by simp_all) hb
   simp_all
omit f W FX in
theorem ZS {v:Nat} (hv:v∈fK u as):fR (iz u as) ((fK u as).idxOf v)=fR u v:=by
 have hx:=hO ((jl g).1 hv).1;unfold fR;rw[Rg (HX hv) hx,hx];rfl
omit f W FX in
theorem WH {b:Nat} {B:Bk} (hB:u.blocks[b]? =some B) :
  (nz u as B).ef.takeWhile (fR (iz u as))=((B.ef.takeWhile (fR u)).filter (stays as)).map (fK u as).idxOf/\(nz u as B).ef.dropWhile (fR (iz u as))=((B.ef.dropWhile (fR u)).filter (stays as)).map (fK u as).idxOf:=by
 have e:(nz u as B).ef=((B.ef.takeWhile (fR u)).filter (stays as)).map (fK u as).idxOf++((B.ef.dropWhile (fR u)).filter (stays as)).map (fK u as).idxOf:=by
  rw[<-PO,<-wB3,wAt];rfl
 have Pl:∀v∈B.ef,stays as v=true->v∈fK u as:=λv hv hs=>by
  obtain⟨k,hk⟩:=nT.1 hv;exact(jl g).2 ⟨g.jW v b k ⟨B,hB,hk⟩,hs⟩
 rw[e];refine IZ (λx hx=>?_) λx hx=>?_
 ·obtain⟨v,hv,rfl⟩:=Mv.1 hx
  grind[ZS,wBK,Lb]
 ·obtain⟨v,hv,rfl⟩:=Mv.1 hx
  grind[ZS,List.dropWhile_subset,Fq]
omit f W FX in
theorem ZO {b:Nat} {B:Bk} {mN:Option Nat} {s s':Rs} (hB:u.blocks[b]? =some B) (ha:Alike u as s s')
  (zgH:∀(v k:Nat) (x:Vl) (j p a:Nat),At u v b k->stays as v=true->u.ef[v]? =some x->x.op=21->mN=some p->B.eQ[j]? =some p->x.args[j]? =some a->s'.of (nm u as a)=s.of a) :
  Alike u as (kP u locals mN B s) (kP (iz u as) locals mN (nz u as B) s'):=by
 obtain ⟨e1,_⟩:=WH (as:=as) g hB;have XK:∀v∈B.ef.takeWhile (fR u),∃k,At u v b k:=λv hv=>by
  obtain⟨k,hk⟩:=nT.1 (wBK _ hv);exact⟨k,B,hB,hk⟩
 have hw:∀v∈B.ef.takeWhile (fR u),stays as v=true->ta (iz u as) locals mN (nz u as B) s'.of ((fK u as).idxOf v)=ta u locals mN B s.of v:=by
  intro v hv hs;obtain⟨k,Kj⟩:=XK v hv;have hvl:=g.jW _ _ _ Kj;have hx:=hO hvl;generalize u.ef[v]=x at hx;have hm:v∈fK u as:=by grind[jl]
  unfold ta;rw[Rg (HX hm) hx,hx];show(if x.op=1 then _ else _)=(if x.op=1 then _ else _)
  by_cases h1:x.op=1
  ·rw[if_pos h1,if_pos h1];rfl
  rw [if_neg h1,if_neg h1];have h21:x.op=21:=by
   have:=Lb hv;unfold fR at this;rw[hx]at this;unfold ir at this;rw[RC,IE,IE]at this;omega
  cases hf:mN with
  |none=>rfl
  | some p=>
    show (match B.eQ.findIdx? (·== p)with
      |some j=>s'.of ((iF u as x).args.getD j 0)
      |none=>0)=(match B.eQ.findIdx? (·== p)with
      |some j=>s.of (x.args.getD j 0)
      |none=>0)
    cases hj:B.eQ.findIdx? (·== p)with
    |none=>rfl
    | some j=>
      simp only;obtain⟨hjl,hjp,_⟩:=wBV.1 hj;rw[IE]at hjp;have hpl:=(g.Dz v b k x B Kj hx h21 hB).2;have hja:x.args[j]? =some x.args[j]:=by simp_all
      have e:(iF u as x).args=x.args.map (nm u as):=if_pos (.inl h21)
      grind
 unfold kP;simp only;rw[e1];have hv0:∀v∈B.ef.takeWhile (fR u),v<s.val.length:=λv hv=>by
  obtain⟨k,Kj⟩:=XK v hv;rw[ha.len];exact g.jW _ _ _ Kj
 refine⟨by simp only[A7];exact ha.len,by simp only[A7];exact ha.FD,λv hv=>?_,ha.heap,?_,ha.polls⟩
 ·show (xB s'.val _).getD _ 0=(xB s.val _).getD _ 0;rw[A6 _ _ hv0,A6 _ _ λw hw=>by
   obtain⟨v',hv',rfl⟩:=Mv.1 hw;obtain⟨h1,h2⟩:=LC.1 hv';obtain⟨k,Kj⟩:=XK v' h1;rw[ha.FD];exact wBm ((jl g).2 ⟨g.jW _ _ _ Kj,h2⟩)]
  by_cases hm:v∈B.ef.takeWhile (fR u)
  ·rw[if_pos hm,if_pos (Mv.2 ⟨v,by grind[jl],rfl⟩)]
   grind[jl]
  ·rw [if_neg hm,if_neg λh=>by
    obtain⟨v',hv',e⟩:=Mv.1 h;obtain⟨h1,h2⟩:=LC.1 hv';obtain⟨k,Kj⟩:=XK v' h1;obtain rfl:=QE ((jl g).2 ⟨g.jW _ _ _ Kj,h2⟩) hv e
    simp_all]
   exact ha.val v hv
 ·simp only[EN];have:=wBD (stays as) (B.ef.takeWhile (fR u));have:=ha.steps;omega
theorem Zc{fuel:Nat}:∀(Cu:Nat) (mN:Option Nat) (b:Nat) (B:Bk) (s s':Rs),u.blocks[b]? =some B->Alike u as s s'->
  ((mN=none/\b=0/\s=qx u heap)\/∃(p:Nat) (P:Bk) (o i:Rs),mN=some p/\u.blocks[p]? =some P/\b∈P.next/\I p P.ef.length o/\Alike u as o i/\s = {o with steps:=o.steps+1}/\s' = {i with steps:=i.steps+1})->
  (runM u locals gw fuel Cu mN b s).As (runM (iz u as) locals gw fuel Cu mN b s')
 |0,_,_,_,_,_,_,_,_=>trivial
 | Cu+1,mN,b,B,s,s',hB,ha,he=>by
   have R:=(kj.1 hB).1;have E:Alike u as (kP u locals mN B s) (kP (iz u as) locals mN (nz u as B) s'):=by
     refine ZO g hB ha λv k x j p a F hs N G A hp hq=>?_;rcases he with⟨z,_⟩|⟨O,P,o,i,z,h,C,q,H,rfl,rfl⟩
     ·simp_all
     ·rw[z]at A
      cases A;exact Q0 g f W (s:=o) (s':=i) q H (vx h (g.DO v b k x B F N G hB j a p hq hp)) (f.use v x N hs a (by
        unfold iP
        grind))
   have J:I b (B.ef.takeWhile (fR u)).length (kP u locals mN B s):=by
     rcases he with⟨rfl,rfl,rfl⟩|⟨O,P,o,i,rfl,h,C,q,H,rfl,rfl⟩
     ·exact W.start B hB
     ·exact W.Cs O b P B o h hB C q H.len
   obtain ⟨_,S⟩:=WH (as:=as) g hB;have hlen:(B.ef.takeWhile (fR u)).length+(B.ef.dropWhile (fR u)).length=B.ef.length:=by
     rw[<-K8,wAt]
   have K:B.ef.drop (B.ef.takeWhile (fR u)).length=B.ef.dropWhile (fR u):=by
     have e:=wAt (p:=fR u) (l:=B.ef);generalize B.ef.takeWhile (fR u)=a at e⊢;generalize B.ef.dropWhile (fR u)=d at e⊢;rw[<-e];exact List.drop_left' rfl
   obtain⟨r1,T⟩:=V3 g f W FX (fuel:=fuel) hB _ _ _ _ K hlen (Fq g hB) J E;unfold runM;rw[hB,U9 hB];simp only;rw[S]
   cases hq:oW u gw fuel (B.ef.dropWhile (fR u)) (kP u locals mN B s)with
   | inl e=>
     simp only
     cases e with
     |Ac=>exact trivial
     |stuck=>exact trivial
     | left n fr hp=>
       obtain⟨Z,z,h⟩:=r1 n fr hp hq;rw[h]
       exact⟨z,rfl,rfl⟩
   | inr D=>
     obtain⟨r,z,h,C⟩:=T D hq;rw[z];simp only;have U:=h.steps;by_cases A:fuel<=D.steps
     ·rw[if_pos A];exact trivial
     rw[if_neg A,if_neg (show ¬fuel<=r.steps by omega)];show Ex.As (if B.fin=3 then _ else _) (if B.fin=3 then _ else _);by_cases c:B.fin=3
     ·rw[if_pos c,if_pos c]
      have L:B.state<u.eh.length:=by
        rcases g.fin b B hB with⟨q,_⟩|⟨q,_⟩|⟨_,_,q⟩
        ·omega
        ·omega
        ·exact q
      have y:=hO L;obtain⟨fr,V,X⟩:=OS g f W C h (zds hB c) y λw Q=>⟨vx hB (g.Hc b B _ hB c y w Q),f.out b B _ hB c y w Q⟩
      rw[V,show(nz u as B).state=(HR u as).idxOf B.state from if_pos c,X];exact⟨by omega,rfl,rfl⟩
     rw[if_neg c,if_neg c];have Y:pT (nz u as B) r=pT B D:=by
       unfold pT;show(if B.fin=1 then B.next[0]? else if B.fin=2 then(if r.of (if B.fin=2 then nm u as B.cond else B.cond)=0 then B.next[1]? else B.next[0]?) else none)=_;by_cases m:B.fin=2
       ·rw[if_pos m,if_pos m,if_pos m,Q0 g f W C h (vx hB (g.El b B hB m)) (f.cond b B hB m)]
       ·simp_all
     rw[Y]
     cases hn:pT B D with
     |none=>exact trivial
     | some t=>
       simp only;have ht:t∈B.next:=by
         unfold pT at hn
         repeat' split at hn
         all_goals grind
       have M:=g.nx b t (by grind[next]);exact Zc Cu (some b) t _ _ _ (hO M) ⟨h.len,h.FD,h.val,h.heap,by simp_all,h.polls⟩ (by grind)
theorem zbG{fuel:Nat} (Cu:Nat):(runM u locals gw fuel Cu none 0 (qx u heap)).As (runM (iz u as) locals gw fuel Cu none 0 (qx (iz u as) heap)):=by
 have a:(iz u as).ef.length=(fK u as).length:=by
  show((fK u as).map _).length=_;rw[EN]
 refine Zc g f W FX Cu none 0 _ _ _ (hO (show 0<u.blocks.length from g.L2)) ⟨by simp[qx],by grind[qx],λv _=>?_,rfl,ju _,rfl⟩ (by simp_all);have e:∀n m,(List.replicate n (0:Int)).getD m 0=0:=by grind
 exact(e _ _).trans (e _ _).symm
end
