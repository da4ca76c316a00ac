/- Parts. -/
import Derived.Test.YtloecllhljfidaaGreatDoorM13
set_option maxHeartbeats 4000000
namespace Go.Proofs.YtloecllhljfidaaGreatDoor.Un
open Dm
def lN(l:List Nat):List Nat:=l.foldl (λa s=>if s∈a then a else a++[s]) []
theorem zk(l:List Nat) (s:Nat):lN (l++[s])=if s∈lN l then lN l else lN l++[s]:=by
 grind[lN]
theorem OE{P:List Nat->Prop} (h0:P []) (hs:∀l s,P l->P (l++[s])) (l:List Nat):P l:=by
 have:∀r:List Nat,P r.reverse:=λr=>by
  induction r <;> grind
 rw[<-List.reverse_reverse l]
 grind
theorem vY(l:List Nat):∀x,x∈lN l↔x∈l:=by
 induction l using OE with
 |h0=>exact λ_=>Iff.rfl
 | hs l s a=>
   grind[zk,Pl]
theorem Rg(l:List Nat):(lN l).Nodup:=by
 induction l using OE with
 |h0=>exact List.nodup_nil
 | hs l s a=>
   grind[zk,wBO]
theorem Ia{l:List Nat} {x:Nat} (h:x∈l):l[l.idxOf x]? =some x:=by
 grind
theorem sY{l:List Nat} (a:l.Nodup) {i j x:Nat} (hi:l[i]? =some x) (b:l[j]? =some x):i=j:=by
 grind[wA6]
theorem QY{l:List Nat} {x y:Nat} (hx:x∈l) (a:y∈l) (h:l.idxOf x=l.idxOf y):x=y:=by
 grind[Ia,Option.some.inj]
theorem Nk{p:Nat->Bool}:∀{l:List Nat} {k v:Nat},l[k]? =some v->p v=true->(l.filter p)[((l.take k).filter p).length]? =some v
 |[],k,v,h,_=>by simp_all
 | a::l,0,v,h,hp=>by
   simp_all
 | a::l,k+1,v,h,hp=>by
   have b:=Nk (l:=l) (k:=k) (by simp_all) hp
   grind
theorem zaP{p:Nat->Bool} {l:List Nat} {j k w:Nat} (h:l[j]? =some w) (hp:p w=true) (a:j<k):((l.take j).filter p).length<((l.take k).filter p).length:=by
 obtain ⟨b,rfl⟩:=jo.1 h;have e:l.take k=l.take j++l[j]::((l.take k).drop (j+1)):=by
  conv=>lhs;rw[<-wA1 j (l.take k)]
  rw[List.take_take,wBi (by omega)];congr 1;rw[YD (by grind),List.getElem_take]
 grind
section
variable (u:U)(as:Nat->Int)
def stays(v:Nat):Bool:=as v == (v:Int)
def fM:List Nat:=u.blocks.flatMap λB=>B.ej.filter (stays as)
def yr:Nat->Nat->Nat
 |0,v=>v
 |k+1,v=>if 0<=as v/\as v≠(v:Int) then yr k (as v).toNat else v
def nm(v:Nat):Nat:=if yr as (u.ej.length+1) v∈fM u as then(fM u as).idxOf (yr as (u.ej.length+1) v) else 0
def L0:List Nat:=(fM u as).filterMap (λn=>match u.ej[n]? with
  |some x=>if leaves x.op=true then some x.state else none
  |none=>none)++u.blocks.filterMap λB=>if B.fin=3 then some B.state else none
def Ik:List Nat:=lN (L0 u as)
def ir(x:Vl):Vl where
 op:=x.op
 a:=if 0<(if two x.op=true then 2 else if ml x.op=true then 1 else 0) then nm u as x.a else x.a
 b:=if two x.op=true then nm u as x.b else x.b
 n:=x.n
 args:=if x.op=21\/x.op=20 then x.args.map (nm u as) else x.args
 state:=if leaves x.op=true then(Ik u as).idxOf x.state else x.state
def mP(B:Bk):Bk where
 ej:=(B.ej.filter (stays as)).map (fM u as).idxOf
 fin:=B.fin
 cond:=if B.fin=2 then nm u as B.cond else B.cond
 next:=B.next
 fh:=B.fh
 state:=if B.fin=3 then(Ik u as).idxOf B.state else B.state
def XJ(f:Fm):Fm:=⟨f.func,f.pc,f.locals.map (nm u as),f.stack.map (nm u as)⟩
def gU:U where
 func:=u.func
 pc:=u.pc
 ej:=(fM u as).map λn=>ir u as (u.ej.getD n ⟨0,0,0,0,[],0⟩)
 blocks:=u.blocks.map (mP u as)
 eo:=(Ik u as).map λs=>(u.eo.getD s []).map (XJ u as)
end
def zbA(u:U):Prop:=∀v b k b' k',At u v b k->At u v b' k'->b=b'/\k=k'
theorem JJ{u:U} (c:zbA u) {b:Nat} {B:Bk} (a:u.blocks[b]? =some B):B.ej.Nodup:=by
 refine wA6.2 λi j hi d f e=>?_;have g:At u B.ej[i] b i:=⟨B,a,gN hi⟩
 have h:At u B.ej[i] b j:=⟨B,a,by rw[e];exact gN d⟩
 have:=(c _ _ _ _ _ g h).2;omega
theorem Al{u:U} {as:Nat->Int} (d:zbA u):(fM u as).Nodup:=by
 have b:∀(l:List Bk) (i:Nat),(∀k B,l[k]? =some B->u.blocks[i+k]? =some B)->(l.flatMap λB=>B.ej.filter (stays as)).Nodup:=by
  intro l
  induction l with
  |nil=>simp_all
  | cons B l f=>
    intro i h;rw[List.flatMap_cons,wBO];have g:=h 0 B rfl;refine⟨by grind[JJ],f (i+1) λk C hk=>by rw[show i+1+k=i+(k+1) by omega];simp_all,λa j c hc e=>?_⟩;subst e
    let⟨C,hC,hac⟩:=UE.1 hc
    let⟨k,hk⟩:=mn.1 hC
    let⟨m,n⟩:=mn.1 (Lz.1 j).1
    let⟨o,p⟩:=mn.1 (Lz.1 hac).1
    have:=(d a i m (i+(k+1)) o ⟨B,g,n⟩ ⟨C,h (k+1) C (by simpa using hk),p⟩).1;omega
 exact b u.blocks 0 (by simp_all)
theorem Pt.short{nx:Nat->List Nat} {x:Nat}:∀{b l},Pt nx b l->x∈l->x≠b->∃a,Pt nx x a/\a.length<l.length
 | _,_,.nil,h,hn=>by
   simp_all
 | _,_,.step (p:=p) (l:=l) h e,hx,hn=>by
   rcases Ki.1 hx with rfl|hx
   ·omega
   ·by_cases hp:x=p
    ·subst hp
     exact⟨l,h,by simp⟩
    ·let⟨a,c,d⟩:=Pt.short h hx hp
     exact⟨a,c,by simp;omega⟩
theorem mz.VY{nx:Nat->List Nat} {a b:Nat} (c:mz nx a b) (d:mz nx b a) {l:List Nat} (e:Pt nx b l):a=b:=by
 have f:∀n l,l.length<=n->(Pt nx b l->a≠b->False)/\(Pt nx a l->a≠b->False):=by
  intro n
  induction n with
  | zero=>
    intro l e;have:l=[]:=by simp_all
    subst this
    exact⟨λh _=>(nomatch h),λh _=>(nomatch h)⟩
  | succ n k=>
    intro l e;refine⟨λh g=>?_,λh g=>?_⟩
    ·let⟨l',i,j⟩:=h.short (c l h) g
     grind
    ·let⟨l',i,j⟩:=h.short (d l h) g.symm
     grind
 by_cases h:a=b
 ·exact h
 ·exact((f l.length l (iZ _)).1 e h).elim
theorem mz.trans{nx:Nat->List Nat} {a b c:Nat} (f:mz nx a b) (i:mz nx b c):mz nx a c:=λl g=>by
 have d:∀{y l},Pt nx y l->b∈l->a∈l:=by
  intro y l hp
  induction hp with
  | nil=>
    intro hb;obtain rfl:b=0:=by simp_all
    exact f _ .nil
  | step h e j=>
    intro hb;rcases Ki.1 hb with rfl|hb
    ·exact f _ (.step h e)
    simp_all
 exact d g (i l g)
structure Fit (u:U) (as:Nat->Int):Prop where
 root:∀v,v<u.ej.length->0<=as v->∃w:Nat,as v=(w:Int)/\w<u.ej.length/\as w=(w:Int)
 up:∀(v w b k:Nat),as v=(w:Int)->At u v b k->∃c j,At u w c j/\(c=b/\j<=k\/c≠b/\mz (next u) c b)
 zdv:∀(v w:Nat),as v=(w:Int)->mq u v->mq u w
 use:∀v x,u.ej[v]? =some x->stays as v=true->∀w∈gG x,0<=as w
 st:∀v x fs,u.ej[v]? =some x->stays as v=true->leaves x.op=true->u.eo[x.state]? =some fs->∀w∈gL fs,0<=as w
 cond:∀(b:Nat) B,u.blocks[b]? =some B->B.fin=2->0<=as B.cond
 out:∀(b:Nat) B fs,u.blocks[b]? =some B->B.fin=3->u.eo[B.state]? =some fs->∀w∈gL fs,0<=as w
class WU (P:Nat->Prop) (as:Nat->Int):Prop where
 h:∀v,stays as v=true->P v
instance (as:Nat->Int):WU (λ_=>True) as:=⟨λ_ _=>trivial⟩
instance (as:Nat->Int):WU (λv=>stays as v=true) as:=⟨λ_ h=>h⟩
section
variable{u:U}{P:Nat->Prop}{as:Nat->Int}[hP:WU P as] (g:Gd u P)(f:Fit u as)
include g
theorem jd{v:Nat}:v∈fM u as↔v<u.ej.length/\stays as v=true:=by
 unfold fM;rw[UE];constructor
 ·rintro⟨B,d,hv⟩
  let⟨a,c⟩:=Lz.1 hv
  let⟨b,hb⟩:=mn.1 d
  let⟨k,hk⟩:=mn.1 a
  exact⟨g.iM v b k ⟨B,hb,hk⟩,c⟩
 ·rintro⟨a,c⟩
  let⟨b,k,B,hb,hk⟩:=g.B6 v a (hP.h v c)
  grind
theorem wM{b:Nat}{B:Bk}(a:u.blocks[b]? =some B):B.ej.Nodup:=JJ g.Ao a
omit hP in
theorem Cj:(fM u as).Nodup:=Al g.Ao
omit g in
include f in
theorem zck {v:Nat} (hv:v<u.ej.length) (h0:0<=as v):∃w:Nat,yr as (u.ej.length+1) v=w/\as v=(w:Int)/\w<u.ej.length/\as w=(w:Int):=by
 obtain⟨w,h1,h2,h3⟩:=f.root v hv h0;refine⟨w,?_,h1,h2,h3⟩;unfold yr;split
 ·rename_i h;rw[h1];show yr as u.ej.length w=w;cases u.ej.length <;> simp_all[yr,if_neg]
 omega
include f
theorem WN{v:Nat} (hv:v<u.ej.length) (h0:0<=as v):∃w:Nat,as v=(w:Int)/\w∈fM u as/\nm u as v=(fM u as).idxOf w:=by
 let⟨w,d,a,b,e⟩:=zck f hv h0
 have c:w∈fM u as:=(jd g).2 ⟨b,by simp_all[stays]⟩;exact⟨w,a,c,by simp_all[nm,if_pos]⟩
omit f g
theorem RB{i n:Nat} {x:Vl} (hi:(fM u as)[i]? =some n) (hx:u.ej[n]? =some x):(gU u as).ej[i]? =some (ir u as x):=by
 show((fM u as).map _)[i]? =_
 simp_all
theorem A0(g:Gd u P) {i:Nat} {y:Vl} (h:(gU u as).ej[i]? =some y):∃n x,(fM u as)[i]? =some n/\u.ej[n]? =some x/\y=ir u as x/\stays as n=true:=by
 have h:((fM u as).map _)[i]? =some y:=h;rw[zq]at h
 cases hn:(fM u as)[i]? with
 |none=>simp_all
 | some n=>
   let⟨a,b⟩:=(jd g).1 (zD hn)
   simp_all
theorem U6{b:Nat} {B:Bk} (a:u.blocks[b]? =some B):(gU u as).blocks[b]? =some (mP u as B):=by
 show(u.blocks.map _)[b]? =_
 simp_all
theorem GV{b:Nat} {a:Bk} (h:(gU u as).blocks[b]? =some a):∃B,u.blocks[b]? =some B/\a=mP u as B:=by
 have h:(u.blocks.map _)[b]? =some a:=h
 grind
theorem Zp(b:Nat):next (gU u as) b=next u b:=by
 unfold next
 cases hb:u.blocks[b]? with
 | none=>
   grind[gU]
 |some B=>rw[U6 hb];rfl
theorem QK:next (gU u as)=next u:=funext Zp
theorem MC{h:Bk->Bk} (a:∀B,(h B).next=B.next) (b:Nat):∀l i,jK (l.map h) i b=jK l i b
 |[],_=>rfl
 | B::l,i=>by
   show((h B).next.filter (·= b)).map (λ_=>i)++jK (l.map h) (i+1) b=_;rw[a,MC a b l];rfl
theorem RN(b:Nat):ahead (gU u as) b=ahead u b:=MC (h:=mP u as) (λ_=>rfl) b u.blocks 0
def pk(u:U) (as:Nat->Int) (b k:Nat):Nat:=match u.blocks[b]? with
 |some B=>((B.ej.take k).filter (stays as)).length
 |none=>0
theorem zd9{v b k:Nat} (h:At u v b k) (hs:stays as v=true):At (gU u as) ((fM u as).idxOf v) b (pk u as b k):=by
 let⟨B,hB,hv⟩:=h
 refine⟨_,U6 hB,?_⟩;show((B.ej.filter (stays as)).map _)[pk u as b k]? =_
 grind[pk,Nk]
theorem zcG{v b j k:Nat} (h:At u v b j) (hs:stays as v=true) (a:j<k):pk u as b j<pk u as b k:=by
 let⟨B,hB,hv⟩:=h
 simp_all[pk,zaP]
theorem KX(g:Gd u P) {i b k:Nat} (h:At (gU u as) i b k):∃v j,At u v b j/\stays as v=true/\i=(fM u as).idxOf v/\k=pk u as b j/\(fM u as)[i]? =some v:=by
 let⟨B',Xz,hi⟩:=h
 obtain⟨B,d,rfl⟩:=GV Xz;have hi:((B.ej.filter (stays as)).map _)[k]? =some i:=hi;rw[zq]at hi
 cases hv:(B.ej.filter (stays as))[k]? with
 |none=>simp_all
 | some v=>
   rw[hv]at hi;obtain rfl:(fM u as).idxOf v=i:=Option.some.inj hi
   let⟨e,c⟩:=Lz.1 (zD hv)
   let⟨j,hj⟩:=mn.1 e
   have a:At u v b j:=⟨B,d,hj⟩
   refine⟨v,j,a,c,rfl,?_,Ia ((jd g).2 ⟨g.iM _ _ _ a,c⟩)⟩;unfold pk;rw[d];exact sY (by grind[wM]) hv (Nk hj c)
theorem Zw(x:Vl):gG (ir u as x)=(gG x).map (nm u as):=by
 unfold gG;show(if x.op=21 then(ir u as x).args else if x.op=20 then(ir u as x).a::(ir u as x).b::(ir u as x).args.take 1 else if two x.op=true then[(ir u as x).a,(ir u as x).b] else if ml x.op=true then[(ir u as x).a] else[])=_;unfold ir;simp only;by_cases c:x.op=21
 ·simp[c]
 ·rw[ if_neg c];by_cases d:x.op=20
  ·simp_all[two]
  grind
include g f
theorem Nt{w:Nat} (h:mq u w) (h0:0<=as w):mq (gU u as) (nm u as w):=by
 let⟨x,hx,_⟩:=id h
 let⟨r,a,b,c⟩:=WN g f (by grind) h0
 let⟨y,hy,hg⟩:=f.zdv w r a h
 exact⟨ir u as y,by rw[c];exact RB (Ia b) hy,hg⟩
theorem zau{w b k:Nat} (h:qw u w b k) (hb:b<u.blocks.length) (h0:0<=as w):qw (gU u as) (nm u as w) b (pk u as b k):=by
 let⟨c,j,AE,hc⟩:=h
 let⟨r,o,p,q⟩:=WN g f (g.iM _ _ _ AE) h0
 let⟨c',j',RG,hc'⟩:=f.up w r c j o AE
 have hs:=((jd g).1 p).2;refine⟨c',pk u as c' j',by grind[zd9],?_⟩;rw[QK];rcases hc with⟨rfl,s⟩|⟨i,n⟩
 ·rcases hc' with⟨rfl,m⟩|⟨d,a⟩
  ·exact .inl ⟨rfl,zcG RG hs (by omega)⟩
  simp_all
 ·rcases hc' with⟨rfl,m⟩|⟨d,a⟩
  ·simp_all
  ·refine .inr ⟨λe=>?_,a.trans n⟩;subst e
   let⟨l,hl⟩:=g.reach c' hb
   exact i (n.VY a hl)
theorem LC{w b:Nat} (h:sP u w b) (h0:0<=as w):sP (gU u as) (nm u as w) b:=by
 let⟨c,j,AE,hd⟩:=h
 let⟨r,d,e,i⟩:=WN g f (g.iM _ _ _ AE) h0
 let⟨c',j',RG,hc'⟩:=f.up w r c j d AE
 refine⟨c',pk u as c' j',by grind[zd9,jd],?_⟩;rw[QK];rcases hc' with⟨rfl,_⟩|⟨_,a⟩
 ·exact hd
 ·exact a.trans hd
omit f in
theorem LZ {s:Nat} (h:s∈L0 u as):s<u.eo.length/\((∃(v b k:Nat) (x:Vl),At u v b k/\stays as v=true/\u.ej[v]? =some x/\leaves x.op=true/\x.state=s)\/∃(b:Nat) (B:Bk),u.blocks[b]? =some B/\B.fin=3/\B.state=s):=by
 unfold L0 at h;rcases EG.1 h with h|h
 ·obtain⟨n,hn,hs⟩:=List.mem_filterMap.1 h;obtain⟨h1,hs1⟩:=(jd g).1 hn;have hx:=gN h1;rw[hx]at hs;simp only at hs;split at hs
  ·rename_i hl;cases hs;obtain⟨b,k,AE⟩:=g.B6 n h1 (hP.h n hs1);exact⟨g.leave n _ hx hl,by grind⟩
  ·cases hs
 ·obtain ⟨B,hB,hs⟩:=List.mem_filterMap.1 h;obtain⟨b,hb⟩:=mn.1 hB;split at hs
  ·rename_i h3;cases hs;refine⟨?_,by grind⟩;rcases g.fin b B hb with⟨h4,_⟩|⟨h4,_⟩|⟨_,_,h4⟩
   ·omega
   ·omega
   ·exact h4
  ·cases hs
omit g f in
theorem Vd {s:Nat} {fs:List Fm} (h:s∈Ik u as) (hs:u.eo[s]? =some fs):(gU u as).eo[(Ik u as).idxOf s]? =some (fs.map (XJ u as)):=by
 show((Ik u as).map _)[_]? =_
 grind
omit f in
theorem zdf {i:Nat} {gs:List Fm} (h:(gU u as).eo[i]? =some gs):∃s fs,s∈Ik u as/\u.eo[s]? =some fs/\gs=fs.map (XJ u as):=by
 have h:((Ik u as).map _)[i]? =some gs:=h;rw[zq]at h
 cases hn:(Ik u as)[i]? with
 |none=>simp_all
 | some s=>
   rw[hn]at h;have hm:s∈Ik u as:=zD hn;have hl:=(LZ g ((vY _ _).1 hm)).1
   grind
omit g f in
theorem Oa (fs:List Fm):gL (fs.map (XJ u as))=(gL fs).map (nm u as):=by
 unfold gL;rw[List.flatMap_map,List.map_flatMap];congr 1;funext x;rw[Mw];rfl
omit f in
theorem zfm {v:Nat} {x:Vl} (hs:stays as v=true) (hx:u.ej[v]? =some x) (hl:leaves x.op=true):x.state∈Ik u as:=by
 refine(vY _ _).2 (Ti _ (List.mem_filterMap.2 ⟨v,by grind[jd,jo],?_⟩))
 simp_all
omit g f in
theorem zdu {b:Nat} {B:Bk} (hB:u.blocks[b]? =some B) (h3:B.fin=3):B.state∈Ik u as:=
 (vY _ _).2 (wBY _ (List.mem_filterMap.2 ⟨B,zD hB,by rw[if_pos h3]⟩))
omit f in
theorem RR {v b k:Nat} {x:Vl} (h:At u v b k) (hx:u.ej[v]? =some x) (hh:hZ x.op=true):∀{w j:Nat} {y:Vl},At u w b j->u.ej[w]? =some y->j<=k->hZ y.op=true:=by
 have key:∀(n v k:Nat) (x:Vl),At u v b k->u.ej[v]? =some x->hZ x.op=true->∀{w j:Nat} {y:Vl},At u w b j->u.ej[w]? =some y->j+n=k->hZ y.op=true:=by
  intro n
  induction n with
  | zero=>
    intro v k x h hx hh w j y hw hy e;obtain rfl:j=k:=by omega
    obtain⟨B,h1,h2⟩:=h;obtain⟨B',h3,h4⟩:=hw
    simp_all
  | succ n ih=>
    intro v k x h hx hh w j y hw hy e;obtain⟨k,rfl⟩:∃i,k=i+1:=⟨k-1,by omega⟩
    obtain⟨B,h1,h2⟩:=h;have hk:k<B.ej.length:=by have:=(jo.1 h2).1;omega
    have h3:At u (B.ej[k]) b k:=⟨B,h1,gN hk⟩
    have hz:=gN (g.iM _ _ _ h3);exact ih _ k _ h3 hz (g.yD _ _ _ _ _ _ ⟨B,h1,h2⟩ h3 hx hz hh) hw hy (by omega)
 exact λ{w j y} hw hy hj=>key (k-j) v k x h hx hh hw hy (by omega)
theorem LV:Good (gU u as):=by
 have hL:(fM u as).length<=u.ej.length:=iP _ _ (Cj g) λv h=>((jd g).1 h).1;have hS:(Ik u as).length<=u.eo.length:=iP _ _ (Rg _) λs hs=>(LZ g ((vY _ _).1 hs)).1;have hlen:(gU u as).ej.length=(fM u as).length:=by
  show((fM u as).map _).length=_;rw[Er]
 have J:(gU u as).blocks.length=u.blocks.length:=by
  show(u.blocks.map _).length=_;rw[Er]
 have oS:(gU u as).eo.length=(Ik u as).length:=by
  show((Ik u as).map _).length=_;rw[Er]
 have U:∀s fs,s∈Ik u as->u.eo[s]? =some fs->∀w∈gL fs,0<=as w:=by
  intro s fs hs q w e;rcases(LZ g ((vY _ _).1 hs)).2 with⟨v,b,k,x,_,a,I,C,rfl⟩|⟨b,B,c,a,rfl⟩
  ·exact f.st v x fs I a C q w e
  ·exact f.out b B fs c a q w e
 have l:∀{i b k:Nat} {y:Vl},At (gU u as) i b k->(gU u as).ej[i]? =some y->∃v j x,At u v b j/\stays as v=true/\i=(fM u as).idxOf v/\k=pk u as b j/\u.ej[v]? =some x/\y=ir u as x:=by
  intro i b k y M m
  let⟨v,j,c,a,I,C,r⟩:=KX g M
  let⟨n,x,L,S,V,_⟩:=A0 g m
  rw[r]at L;cases L;exact by grind
 have Q:∀{v b k:Nat},At u v b k->b<u.blocks.length:=λ⟨B,h,_⟩=>(jo.1 h).1
 refine
  { nv:=by rw[hlen];have:=g.nv;omega
    I5:=by rw[J];exact g.I5
    nb:=by rw[J];exact g.nb
    ns:=by rw[oS];have:=g.ns;omega
    st:=?_,B6:=?_,Ao:=?_,iM:=?_,yD:=?_,par:=?_,Cd:=?_,op:=?_,use:=?_,leave:=?_,putAt:=?_,param:=?_,fin:=?_,nx:=?_,fh:=?_,zG:=?_,FY:=?_,reach:=?_,yo:=?_,AU:=?_,Dv:=?_,Ay:=?_,Dp:=?_}
 ·intro s gs hs;obtain⟨s0,fs,c,a,rfl⟩:=zdf g hs
  let⟨I,C,r⟩:=g.st s0 fs a
  refine⟨by simpa using I,by simpa using C,λf' W=>?_⟩;obtain⟨R,X,rfl⟩:=Kj.1 W
  let⟨Y,h7,h8,h9⟩:=r R X
  have ad:∀w,w∈R.locals\/w∈R.stack->0<=as w:=λw e=>U s0 fs c a w (by
   grind[gL])
  refine⟨by show(R.locals.map _).length<=40;simpa using Y,by show(R.stack.map _).length<=60;simpa using h7,λv hv=>?_,λv hv=>?_⟩
  ·obtain⟨w,e,rfl⟩:=Kj.1 (hv)
   grind[Nt]
  ·obtain⟨w,e,rfl⟩:=Kj.1 (hv)
   grind[Nt]
 ·intro i hi _;rw[hlen]at hi;have hn:=gN hi
  let⟨c,a⟩:=(jd g).1 (zD hn)
  let⟨b,k,M⟩:=g.B6 _ c (hP.h _ a)
  refine⟨b,pk u as b k,?_⟩;have:=zd9 M a
  grind[Cj]
 ·intro i b k b' k' h h'
  let⟨v,j,c,a,I,C,r⟩:=KX g h
  let⟨v',j',L,S,V,g4,T⟩:=KX g h'
  rw[r]at T;cases T;obtain⟨rfl,rfl⟩:=g.Ao _ _ _ _ _ c L;omega
 ·grind[KX,jo]
 ·intro i i' b k y y' h h' m Z hh;obtain⟨v,j,x,c,a,_,C,r,rfl⟩:=l h m;obtain⟨v',j',x',L,S,_,g4,T,rfl⟩:=l h' Z;show hZ x'.op=true;refine RR g c r hh L T ?_
  grind[zcG]
 ·intro i b k y h m F;obtain⟨v,j,x,c,_,_,_,r,rfl⟩:=l h m;exact g.par v b j x c r F
 ·intro i b k y P h m F d;obtain⟨v,j,x,c,_,_,_,r,rfl⟩:=l h m;obtain⟨B,A,rfl⟩:=GV d
  let⟨Y,h7⟩:=g.Cd v b j x B c r F A
  refine⟨Y,?_⟩;have D:x.op=21:=F;show(if x.op=21\/x.op=20 then x.args.map (nm u as) else x.args).length=B.fh.length
  simp_all
 ·intro i y m;obtain⟨n,x,_,a,rfl,_⟩:=A0 g m;exact g.op n x a
 ·intro i y m w e;obtain⟨n,x,_,a,rfl,C⟩:=A0 g m;rw[Zw]at e;obtain⟨w0,o,rfl⟩:=Kj.1 e;exact Nt g f (g.use n x a w0 o) (f.use n x a C w0 o)
 ·intro i y m hl;obtain⟨n,x,_,a,rfl,C⟩:=A0 g m;have E:leaves x.op=true:=hl;rw[oS];show(if leaves x.op=true then(Ik u as).idxOf x.state else x.state)<_;rw[if_pos E]
  grind[zfm]
 ·intro i y m F;obtain⟨n,x,_,a,rfl,C⟩:=A0 g m;have D:x.op=20:=F;show(if x.op=21\/x.op=20 then x.args.map (nm u as) else x.args).length=1;rw[if_pos (.inr D),Er];exact g.putAt n x a D
 ·intro i y m F;obtain⟨n,x,c,a,rfl,C⟩:=A0 g m
  let⟨L,S,V⟩:=g.param n x a F
  refine⟨L,S,λw z hz aa ab=>?_⟩;obtain⟨n',x',ac,G,rfl,_⟩:=A0 g hz;obtain rfl:=V n' x' G aa ab;exact sY (Cj g) ac c
 ·intro b P d;obtain⟨B,A,rfl⟩:=GV d;rcases g.fin b B A with⟨c,a⟩|⟨c,a,I⟩|⟨c,a,I⟩
  ·exact .inl ⟨c,a⟩
  ·refine .inr (.inl ⟨c,a,?_⟩);show mq _ (if B.fin=2 then nm u as B.cond else B.cond);rw[if_pos c];exact Nt g f I (f.cond b B A c)
  ·refine .inr (.inr ⟨c,a,?_⟩);rw[oS];show(if B.fin=3 then(Ik u as).idxOf B.state else B.state)<_;rw[if_pos c];exact List.idxOf_lt_length_of_mem (zdu A c)
 ·intro b t ht;rw[Zp]at ht;rw[J];exact g.nx b t ht
 ·intro b P d;obtain⟨B,A,rfl⟩:=GV d;rw[RN];exact g.fh b B A
 ·rw[RN];exact g.zG
 ·intro b P d a t ht;obtain⟨B,A,rfl⟩:=GV d;rw[RN];exact g.FY b B A a t ht
 ·intro b hb;rw[J]at hb;rw[QK];exact g.reach b hb
 ·intro i b k y h m F w e;obtain⟨v,j,x,c,a,_,rfl,r,rfl⟩:=l h m;rw[Zw]at e;obtain⟨w0,o,rfl⟩:=Kj.1 e;exact zau g f (g.yo v b j x c r F w0 o) (Q c) (f.use v x r a w0 o)
 ·intro i b k y P h m F d j w p e hp;obtain⟨v,j0,x,c,a,_,rfl,r,rfl⟩:=l h m;obtain⟨B,A,rfl⟩:=GV d;have D:x.op=21:=F;have e:(if x.op=21\/x.op=20 then x.args.map (nm u as) else x.args)[j]? =some w:=e;rw[if_pos (.inl D),zq]at e
  cases hq:x.args[j]? with
  |none=>simp_all
  | some w0=>
    rw[hq]at e;obtain rfl:nm u as w0=w:=Option.some.inj e;exact LC g f (g.AU v b j0 x B c r D A j w0 p hq hp) (f.use v x r a w0 (by
      unfold gG
      grind))
 ·intro i b k y gs h m hl H w e;obtain⟨v,j,x,c,a,_,rfl,r,rfl⟩:=l h m;have E:leaves x.op=true:=hl;have N:(ir u as x).state=(Ik u as).idxOf x.state:=by
   show(if leaves x.op=true then _ else _)=_;rw[if_pos E]
  have O:=g.leave v x r E;have q:=gN O;rw[N,Vd (by grind) q]at H;cases H;rw[Oa]at e;obtain⟨w0,o,rfl⟩:=Kj.1 e;exact zau g f (g.Dv v b j x _ c r E q w0 o) (Q c) (f.st v x _ r a E q w0 o)
 ·intro b P d a;obtain⟨B,A,rfl⟩:=GV d;have G:B.fin=2:=a;show sP _ (if B.fin=2 then nm u as B.cond else B.cond) b;rw[if_pos G];exact LC g f (g.Ay b B A G) (f.cond b B A G)
 ·intro b P gs d I H w e;obtain⟨B,A,rfl⟩:=GV d;have K:B.fin=3:=I;have N:(mP u as B).state=(Ik u as).idxOf B.state:=by
   show(if B.fin=3 then _ else _)=_;rw[if_pos K]
  have O:B.state<u.eo.length:=by
   rcases g.fin b B A with⟨C,_⟩|⟨C,_⟩|⟨_,_,C⟩
   ·omega
   ·omega
   ·exact C
  have q:=gN O;rw[N,Vd (zdu A K) q]at H;cases H;rw[Oa]at e;obtain⟨w0,o,rfl⟩:=Kj.1 e;exact LC g f (g.Dp b B _ A K q w0 o) (f.out b B _ A K q w0 o)
end
open Dm
section
variable (u:U)(kp:Nat->Bool)
def jR(b:Nat):Nat:=if kp b=true then((List.range b).filter kp).length else 0
def uT(i:Nat)(a:List Nat):List Nat:=(List.range a.length).filter λj=>kp (a.getD j 0)&&(next u (a.getD j 0)).contains i
def kr(i:Nat)(a:List Nat):List Nat:=(uT u kp i a).map λj=>jR kp (a.getD j 0)
def pd(i:Nat)(a args:List Nat):List Nat:=(uT u kp i a).map λj=>args.getD j 0
def Py:Bk:=⟨[],0,0,[],[],0⟩
def mc:List Nat:=(List.range u.blocks.length).filter kp
def E2(b:Nat):Bk:={u.blocks.getD b Py with next:=(u.blocks.getD b Py).next.map (jR kp),fh:=kr u kp b (u.blocks.getD b Py).fh}
structure Cut (u':U):Prop where
 func:u'.func=u.func
 pc:u'.pc=u.pc
 eo:u'.eo=u.eo
 blocks:u'.blocks=(mc u kp).map (E2 u kp)
 len:u'.ej.length=u.ej.length
 Cd:∀(v b k:Nat) (x:Vl) (B:Bk),At u v b k->u.ej[v]? =some x->x.op=21->kp b=true->u.blocks[b]? =some B->u'.ej[v]? =some {x with args:=pd u kp b B.fh x.args}
 same:∀(v:Nat) (x:Vl),u.ej[v]? =some x->¬(x.op=21/\∃b k,At u v b k/\kp b=true)->u'.ej[v]? =some x
structure KQ (az jD:List Int):Prop where
 len:jD.length=az.length
 gone:∀(v b k:Nat),At u v b k->kp b=false->v<az.length->jD[v]? =some (-1)
 same:∀(v:Nat),(¬∃b k,At u v b k/\kp b=false)->jD[v]? =az[v]?
end
section
variable{u u':U}{kp:Nat->Bool}
theorem filter_all{p:Nat->Bool}{l:List Nat}(h:∀x∈l,p x=true):l.filter p=l:=List.filter_eq_self.2 h
theorem T7(hk:∀b,b<u.blocks.length->kp b=true) {b:Nat} (hb:b<u.blocks.length):jR kp b=b:=by
 unfold jR;rw[if_pos (hk b hb),filter_all (by grind),UW]
theorem PR(g:Good u) (hk:∀b,b<u.blocks.length->kp b=true) {b:Nat} {B:Bk} (d:u.blocks[b]? =some B):uT u kp b B.fh=List.range B.fh.length:=by
 unfold uT;refine filter_all λj a=>?_;have a:=Vu.1 a;rw[CH,gN a];have hp:B.fh[j]∈ahead u b:=by rw[<-g.fh b B d];exact zI a
 obtain⟨q,e,f,h,c⟩:=xg.1 hp;rw[C7]at c;rw[Option.getD_some,c,hk q (by grind),wBd,wBZ]
 grind[next]
theorem O1(l:List Nat) (d:Nat):(List.range l.length).map (λj=>l.getD j d)=l:=by
 refine wBL λj=>?_
 grind
theorem U0(g:Good u) (hk:∀b,b<u.blocks.length->kp b=true) {b:Nat} {B:Bk} (c:u.blocks[b]? =some B):E2 u kp b=B:=by
 have e:u.blocks.getD b Py=B:=by rw[CH,c];rfl
 unfold E2;rw[e];have f:B.next.map (jR kp)=B.next:=by
  have:∀t∈B.next,jR kp t=t:=λt ht=>T7 hk (g.nx b t (by grind[next]));rw[Ym this,List.map_id''];exact λ_=>rfl
 have h:kr u kp b B.fh=B.fh:=by
  unfold kr;rw[PR g hk c];have:∀j∈List.range B.fh.length,jR kp (B.fh.getD j 0)=B.fh.getD j 0:=λj a=>by
   have a:=Vu.1 a;rw[CH,gN a,Option.getD_some];have hp:B.fh[j]∈ahead u b:=by rw[<-g.fh b B c];exact zI a
   obtain⟨q,i,f,_,d⟩:=xg.1 hp;rw[C7]at d;rw[d];exact T7 hk (by grind)
  rw[Ym this];exact O1 _ _
 simp_all
theorem Cut.eq(g:Good u) (hk:∀b,b<u.blocks.length->kp b=true) (c:Cut u kp u'):u' = u:=by
 have hb:u'.blocks=u.blocks:=by
  rw[c.blocks,mc,filter_all (by simp_all)];refine wBL λb=>?_;by_cases h:b<u.blocks.length
  ·grind[wBk,U0,gN]
  ·simp_all
 have hv:u'.ej=u.ej:=by
  refine wBL λv=>?_;by_cases h:v<u.ej.length
  ·have hx:=gN h;generalize u.ej[v]=x at*;rw[hx];by_cases hp:x.op=21/\∃b k,At u v b k/\kp b=true
   ·obtain ⟨d,b,k,a,f⟩:=hp;obtain⟨B,i,j⟩:=id a;rw[c.Cd v b k x B a hx d f i];have e:pd u kp b B.fh x.args=x.args:=by
     unfold pd;rw[PR g hk i,<-(g.Cd v b k x B a hx d i).2];exact O1 _ _
    rw[e]
   ·exact c.same v x hx hp
  ·rw[Q9 (by rw[c.len];omega),Q9 (by omega)]
 have d:=c.func;have l:=c.pc;have m:=c.eo;cases u;cases u'
 simp_all
theorem KQ.eq{az jD:List Int} (c:KQ u kp az jD) (hk:∀b,b<u.blocks.length->kp b=true):jD=az:=by
 refine wBL λv=>c.same v ?_;rintro⟨b,k,⟨B,a,_⟩,h⟩
 grind
end
open Dm
theorem NJ{l L:List Nat} (h:l <+: L) {v:Nat} (hv:v∈l):L.idxOf v=l.idxOf v:=by
 obtain⟨r,rfl⟩:=h
 grind
theorem Jj(l r:List Nat):lN l <+: lN (l++r):=by
 induction r using OE with
 |h0=>simp_all
 | hs r s a=>
   grind[Pr,zk,List.prefix_append]
section
variable{u:U}{as:Nat->Int}
def kJ(u:U) (as:Nat->Int) (i j:Nat):List Nat:=(u.blocks.take i).flatMap (λB=>B.ej.filter (stays as))++(match u.blocks[i]? with
 |some B=>(B.ej.take j).filter (stays as)
 |none=>[])
theorem MF:kJ u as 0 0=[]:=by
 grind[kJ]
theorem Tw{i:Nat} {B:Bk} (a:u.blocks[i]? =some B):kJ u as i B.ej.length=kJ u as (i+1) 0:=by
 unfold kJ;rw[a];obtain⟨b,rfl⟩:=jo.1 a
 grind[M4,List.flatMap_singleton,I2,stays]
theorem V6:kJ u as u.blocks.length 0=fM u as:=by
 simp_all[kJ,fM,I2,Q9,iZ,Lg]
theorem Mp{i j v:Nat} {B:Bk} (a:u.blocks[i]? =some B) (hv:B.ej[j]? =some v):kJ u as i (j+1)=if stays as v=true then kJ u as i j++[v] else kJ u as i j:=by
 unfold kJ;rw[a];obtain⟨b,rfl⟩:=jo.1 hv
 grind[M4,Pr]
theorem IT{i j:Nat} {B:Bk} (a:u.blocks[i]? =some B):kJ u as i j <+: fM u as:=by
 unfold kJ fM;rw[a];obtain⟨b,rfl⟩:=jo.1 a;have e:u.blocks=u.blocks.take i++u.blocks[i]::u.blocks.drop (i+1):=by
  conv=>lhs;rw[<-wA1 i u.blocks]
  rw[YD b]
 grind[stays,wA1,Pr,List.prefix_append]
theorem zee(b:zbA u) {i j v:Nat} {B:Bk} (a:u.blocks[i]? =some B) (hv:B.ej[j]? =some v) (hs:stays as v=true):(fM u as).idxOf v=(kJ u as i j).length/\v ∉ kJ u as i j:=by
 have hp:=IT (as:=as) (j:=j+1) a;rw[Mp a hv,if_pos hs]at hp;have c:=Al (as:=as) b;obtain⟨r,d⟩:=hp
 grind
theorem Ic(a:∀v b k,At u v b k->v<u.ej.length) {v:Nat} (hv:v∈fM u as):v<u.ej.length:=by
 unfold fM at hv;obtain⟨B,c,hv⟩:=UE.1 hv;obtain⟨b,hb⟩:=mn.1 c;obtain⟨k,hk⟩:=mn.1 (Lz.1 hv).1;exact a v b k ⟨B,hb,hk⟩
theorem SJ{n:Nat} (h:∀v,v<n->as v<(n:Int)):∀(k v:Nat),v<n->yr as k v<n
 |0,_,hv=>hv
 | k + 1,v,hv=>by
   unfold yr;split
   ·rename_i a
    exact SJ h k _ (by simp_all)
   ·exact hv
def tQ(u:U) (l:List Nat):List Nat:=l.filterMap λn=>match u.ej[n]? with
 |some x=>if leaves x.op=true then some x.state else none
 |none=>none
def B7(l:List Bk):List Nat:=l.filterMap λB=>if B.fin=3 then some B.state else none
theorem QH:L0 u as=tQ u (fM u as)++B7 u.blocks:=rfl
end
open Dm
def zax(u:U) (v:Nat):Prop:=(∃x,u.ej[v]? =some x/\(x.op=19\/x.op=20\/x.op=22\/x.op=23))\/ (∃(i:Nat) (x:Vl) (fs:List Fm),u.ej[i]? =some x/\leaves x.op=true/\u.eo[x.state]? =some fs/\v∈gL fs)\/ (∃(b:Nat) (B:Bk),u.blocks[b]? =some B/\B.fin=2/\v=B.cond)\/ (∃(b:Nat) (B:Bk) (fs:List Fm),u.blocks[b]? =some B/\B.fin=3/\u.eo[B.state]? =some fs/\v∈gL fs)
inductive Live (u:U):Nat->Prop
 |root {v:Nat} (h:zax u v):Live u v
 |use {v w:Nat} {x:Vl} (h:Live u v) (hx:u.ej[v]? =some x) (a:w∈gG x):Live u w
theorem Wq{u:U} (g:Good u) {v:Nat} (h:zax u v):v<u.ej.length:=by
 have gl:∀{w},mq u w->w<u.ej.length:=λ⟨_,h,_⟩=>by grind
 have fl:∀{s fs},u.eo[s]? =some fs->∀w∈gL fs,w<u.ej.length:=λ{s fs} hs w a=>by
  let⟨f,hf,a⟩:=UE.1 a
  let⟨_,_,e,d⟩:=(g.st s fs hs).2.2 f hf
  grind
 rcases h with⟨x,h,_⟩|⟨_,_,_,_,_,h,hv⟩|⟨b,B,h,d,rfl⟩|⟨_,_,_,_,_,h,hv⟩
 ·grind
 ·grind
 ·rcases g.fin b B h with⟨c,_⟩|⟨_,_,c⟩|⟨c,_⟩
  ·omega
  ·simp_all
  ·omega
 grind
theorem za2{u:U} (g:Good u) {v:Nat} (h:Live u v):v<u.ej.length:=by
 cases h with
 |root h=>simp_all[Wq]
 |use h hx a=>let⟨_,h,_⟩:=g.use _ _ hx _ a;grind
def Sb(u:U)(as:Nat->Int):Prop:=∀v,v<u.ej.length->(as v=(v:Int)/\Live u v)\/(as v = -1/\¬Live u v)
theorem Sb.fit{u:U} (g:Good u) {as:Nat->Int} (d:Sb u as) (i:∀v,u.ej.length<=v->as v = -1):Fit u as:=by
 have live:∀{w},Live u w->0<=as w:=λ{w} h=>by
  rcases d w (za2 g h)with⟨e,_⟩|⟨_,p⟩
  ·omega
  simp_all
 have self:∀{v w:Nat},as v=(w:Int)->v=w/\v<u.ej.length:=λ{v w} e=>by
  by_cases hv:v<u.ej.length
  ·rcases d v hv with⟨j,_⟩|⟨j,_⟩
   ·omega
   ·omega
  simp_all
 have st:∀{v x},u.ej[v]? =some x->stays as v=true->Live u v:=λ{v x} hx hs=>by
  have hv:=(jo.1 hx).1;unfold stays at hs;rw[Bg]at hs;rcases d v hv with⟨_,h⟩|⟨e,_⟩
  ·exact h
  ·omega
 refine ⟨λv hv h0=>?_,λv w b k e l=>?_,λv w e h=>?_,λv x hx hs w c=>live (.use (st hx hs) hx c),λv x fs hx _ m a w c=>live (.root (.inr (.inl ⟨v,x,fs,hx,m,a,c⟩))),
  λb B f n=>live (.root (.inr (.inr (.inl ⟨b,B,f,n,rfl⟩)))),λb B fs f o a w c=>live (.root (.inr (.inr (.inr ⟨b,B,fs,f,o,a,c⟩))))⟩
 ·rcases d v hv with⟨e,_⟩|⟨e,_⟩
  ·grind
  ·omega
 ·grind
 grind
def AL(l:List Vl):Prop:=∀x∈l,x.args.length<=2
section
variable{ops:List Int}
theorem Ql:∀(i:Nat) (s:Ds) (l:List Nat),(some_ ops i s l).2.ej=s.ej
 |0,_,_=>rfl
 | i+1,s,l=>by
   unfold some_;rw[Ql i];rfl
theorem B9(s:Ds):(fN ops s).2.ej=s.ej:=by
 show(some_ ops (num ops s 4).1 (num ops s 4).2 []).2.ej=s.ej;rw[Ql];rfl
theorem LH{s:Ds} {x:Vl} (h:AL s.ej) (hx:x.args.length<=2):AL (put s x).ej:=λy a=>by
 have a:y∈s.ej++[x]:=a;rcases EG.1 a with b|b
 ·exact h y b
 simp_all
theorem Ac{s:Ds}{x:Vl}(h:AL s.ej)(hx:x.args.length<=2):AL (iO s x).ej:=LH h hx
theorem Y7{s:Ds} {k a b:Nat} (h:AL s.ej):AL (tp ops s k a b).ej:=by
 have hs:AL (fN ops s).2.ej:=by rw[B9];exact h
 unfold tp;by_cases c:k<12
 ·simp_all[if_pos,Ac,vl]
 rw[if_neg c];by_cases c:k=12
 ·simp_all[if_pos,Ac,num,vl]
 rw[if_neg c];by_cases c:k=13
 ·simp_all[if_pos,Ac,num,vl]
 rw[if_neg c];by_cases c:k=14
 ·simp_all[if_pos,Ac,vl]
 rw[if_neg c];by_cases c:k=15
 ·simp_all[if_pos,LH,num,vl]
 rw[if_neg c];by_cases c:k=16
 ·simp_all[if_pos,LH,fQ,vl]
 rw[if_neg c];by_cases c:k=17
 ·simp_all[if_pos,LH,vl]
 rw[if_neg c];by_cases c:k=18
 ·simp_all[if_pos,LH,vl]
 simp_all[if_neg,Ac,num,vl]
theorem Vx{s:Ds}(h:AL s.ej):AL (vL ops s).ej:=Y7 h
theorem WS:∀(i:Nat) (s:Ds),AL s.ej->AL (rows ops i s).ej
 |0,_,h=>h
 | i+1,s,h=>by
   unfold rows;split
   ·exact WS i _ (Vx h)
   ·exact h
theorem GH{s:Ds}(h:AL s.ej):AL (row ops s).ej:=WS _ _ h
theorem Ov{s:Ds} {v:Nat} {l:List Nat} (h:AL s.ej) (a:l.length<=2):AL (setArgs s v l).ej:=λy b=>by
 obtain⟨i,hi⟩:=mn.1 b;have hi:(s.ej.modify v λx=>{x with args:=l})[i]? =some y:=hi;rw[List.getElem?_modify]at hi
 cases hx:s.ej[i]? with
 |none=>simp_all
 | some x=>
   rw[hx]at hi;have hi:some (if v=i then{x with args:=l} else x)=some y:=hi;have:=Option.some.inj hi;subst this;split
   ·exact a
   ·exact h x (zD hx)
theorem zbH{t:Dt} (h:AL t.s.ej):AL (fork ops t).s.ej:=by
 unfold fork;refine GH (Ac ?_ (by simp[vl]));refine GH (s:=(end_ _ _ _ _ _ _).s) ?_;exact GH (s:=(end_ _ _ _ _ _ _).s) h
theorem zbk{t:Dt} (h:AL t.s.ej):AL (zj ops t).s.ej:=by
 unfold zj;refine GH (s:=(end_ _ _ _ _ _ _).s) ?_;show AL (fN ops _).2.ej;rw[B9];exact GH (s:=(end_ _ _ _ _ _ _).s) h
theorem zbM{t:Dt} (h:AL t.s.ej):AL (loop ops t).s.ej:=by
 unfold loop;refine GH (s:=(end_ _ _ _ _ _ _).s) ?_;refine Ov (s:=_) ?_ (by simp);have c:∀(a:Ds) (p:Nat) (l b:List Nat),l.length<=2->b.length<=2->AL a.ej->AL (if(num ops (setArgs a p l) 3).1=0 then setArgs (num ops (setArgs a p l) 3).2 p b else(num ops (setArgs a p l) 3).2).ej:=by grind[Ov,num,setArgs]
 grind[GH,end_,Ac,LH,vl,B9,fQ]
theorem Qs:∀(l:List Int) (t:Dt),AL t.s.ej->AL (lM ops l t).s.ej
 |[],_,h=>h
 | k ::l,t,h=>by
   unfold lM;split
   ·refine Qs l _ ?_
    grind[vR,zbH,zbM,zbk]
   ·exact h
theorem Qd:∀(n i:Nat) (s:Ds),AL s.ej->AL (params n i s).ej
 |0,_,_,h=>h
 |n+1,i,s,h=>Qd n (i+1) _ (by grind[Ac,vl])
theorem zb7(ops a:List Int) (n:Int):AL (IZ ops a n).ej:=by
 unfold IZ;show AL (fN ops _).2.ej;rw[B9];refine Qs _ _ ?_;exact GH (Ac (Qd _ _ _ (λ_ h=>nomatch h)) (by simp[vl]))
end
open Dm
def VV(nx:Nat->List Nat)(FJ:Int)(b:Nat):Prop:=∃l,Pt nx b l/\∀x∈l,(x:Int)≠FJ
theorem XD{nx:Nat->List Nat} {a b:Nat}:¬VV nx (a:Int) b↔mz nx a b:=by
 constructor
 ·intro h l c;refine Classical.byContradiction λd=>h ⟨l,c,λx hx e=>d ?_⟩
  grind
 ·rintro h ⟨l,c,hx⟩;exact hx a (h l c) rfl
structure Wo (n:Nat) (nx:Nat->List Nat) (FJ:Int) (c:Option (Nat×Nat)) (seen:List Bool) (todo:List Nat):Prop where
 len:seen.length=n
 zero:seen[0]? =some true
 sound:∀v:Nat,seen[v]? =some true->VV nx FJ v
 work:∀v∈todo,seen[v]? =some true
 closed:∀v:Nat,seen[v]? =some true->v∈todo\/∀(k t:Nat),(nx v)[k]? =some t->(t:Int)≠FJ->seen[t]? =some true\/∃j,c=some (v,j)/\j<=k
 less:todo.length+seen.count false<=n
theorem count_set{l:List Bool}:∀{v:Nat},l[v]? =some false->(l.set v true).count false+1=l.count false:=by
 grind
section
variable{n:Nat}{nx:Nat->List Nat}{FJ:Int}{seen:List Bool}{todo:List Nat}
theorem Wo.start(b:0<n) (h0:FJ≠0):Wo n nx FJ none ((List.replicate n false).set 0 true) [0]:=by
 have hs:∀v:Nat,((List.replicate n false).set 0 true)[v]? =some true->v=0:=λv hv=>by
  grind
 have a:((List.replicate n false).set 0 true)[0]? =some true:=by simp_all
 refine⟨by simp,a,λv hv=>?_,λv hv=>?_,by simp_all,?_⟩
 ·rw[hs v hv];exact⟨[0],.nil,by grind⟩
 ·simp_all
 grind
theorem Wo.pop{b:Nat} (w:Wo n nx FJ none seen (b::todo)):Wo n nx FJ (some (b,0)) seen todo/\VV nx FJ b:=by
 have a:=w.less;rw[VS]at a;refine⟨⟨w.len,w.zero,w.sound,λv hv=>w.work v (by simp[hv]),λv hv=>?_,by omega⟩,w.sound b (w.work b (by simp))⟩;rcases w.closed v hv with h|h
 ·grind
 grind
theorem Wo.skip{b j t:Nat} (w:Wo n nx FJ (some (b,j)) seen todo) (ht:(nx b)[j]? =some t) (h:(t:Int)=FJ\/seen[t]? =some true):Wo n nx FJ (some (b,j+1)) seen todo:=by
 refine⟨w.len,w.zero,w.sound,w.work,λv hv=>?_,w.less⟩;rcases w.closed v hv with a|a
 ·simp_all
 grind
theorem Wo.push{b j t:Nat} (w:Wo n nx FJ (some (b,j)) seen todo) (ht:(nx b)[j]? =some t) (hb:VV nx FJ b) (g:(t:Int)≠FJ) (c:seen[t]? =some false):Wo n nx FJ (some (b,j+1)) (seen.set t true) (todo++[t]):=by
 have d:=(jo.1 c).1;have a:(seen.set t true)[t]? =some true:=by simp_all
 have up:∀v:Nat,seen[v]? =some true->(seen.set t true)[v]? =some true:=by grind
 have down:∀v:Nat,(seen.set t true)[v]? =some true->v=t\/seen[v]? =some true:=by grind
 refine⟨by rw[Lj];exact w.len,up 0 w.zero,λv hv=>?_,λv hv=>?_,λv hv=>?_,?_⟩
 ·rcases down v hv with rfl|h
  ·obtain⟨l,e,hx⟩:=hb;exact⟨v::l,.step e (zD ht),by simp_all⟩
  ·exact w.sound v h
 ·rcases EG.1 hv with h|h
  ·exact up v (w.work v h)
  simp_all
 ·rcases down v hv with rfl|h
  ·simp_all
  ·rcases w.closed v h with f|f
   ·simp_all
   grind
 ·have:=count_set c;have:=w.less
  grind
theorem Wo.next{b:Nat} (w:Wo n nx FJ (some (b,(nx b).length)) seen todo):Wo n nx FJ none seen todo:=by
 refine⟨w.len,w.zero,w.sound,w.work,λv hv=>(w.closed v hv).imp id λh k t hk ht=>?_,w.less⟩
 grind
theorem Wo.all(w:Wo n nx FJ none seen []):∀{b:Nat} {l:List Nat},Pt nx b l->(∀x∈l,(x:Int)≠FJ)->seen[b]? =some true
 |_,_,.nil,_=>w.zero
 | _,_,.step (p:=p) h e,hx=>by
   have c:=w.all h (by simp_all);obtain⟨k,hk⟩:=mn.1 e;rcases w.closed p c with a|a
   ·cases a
   grind
theorem Wo.iff(w:Wo n nx FJ none seen []) (b:Nat):seen[b]? =some true↔VV nx FJ b:=
 ⟨w.sound b,λ⟨_,a,c⟩=>w.all a c⟩
theorem Yy{b:Nat} (h:FJ=0):¬VV nx FJ b:=by
 rintro⟨l,a,hx⟩;have:0∈l:=by
  clear hx
  induction a with
  |nil=>simp_all
  |step _ _ c=>simp_all
 grind
end
open Dm
def jJ(op:Nat):Bool:=2<=op&&op<=16
theorem rj{op:Nat}:jJ op=true↔2<=op/\op<=16:=by simp_all[jJ,vU,zX]
def J5(as:Nat->Int) (l:List Nat) (i:Nat):Int:=match l[i]? with
 |some w=>as w
 |none=>-1
def keyOf(as:Nat->Int)(x:Vl):Nat×Int×Int×Int:=(x.op,J5 as (gG x) 0,J5 as (gG x) 1,if x.op=2 then x.n else 0)
def GM(u:U)(w v:Nat):Prop:=∃c j b k,At u w c j/\At u v b k/\(c=b/\j<k\/c≠b/\mz (next u) c b)
structure N8 (u:U) (as:Nat->Int):Prop where
 stay:∀(v:Nat) (x:Vl),u.ej[v]? =some x->jJ x.op=false->as v=(v:Int)
 num:∀(v:Nat) (x:Vl),u.ej[v]? =some x->jJ x.op=true->
  (as v=(v:Int)/\∀(w:Nat) (y:Vl),u.ej[w]? =some y->jJ y.op=true->as w=(w:Int)->GM u w v->keyOf as y≠keyOf as x)\/
  ∃(w:Nat) (y:Vl),as v=(w:Int)/\u.ej[w]? =some y/\jJ y.op=true/\as w=(w:Int)/\GM u w v/\keyOf as y=keyOf as x
section
variable{u:U}(g:Good u){as:Nat->Int}(d:N8 u as)
include d
theorem N8.pos{v:Nat} (hv:v<u.ej.length):∃w:Nat,as v=(w:Int)/\w<u.ej.length/\as w=(w:Int)/\(w=v\/(GM u w v/\∃y,u.ej[w]? =some y/\jJ y.op=true)):=by
 have hx:=gN hv
 cases hp:jJ u.ej[v].op with
 |false=>have:=d.stay v _ hx hp;grind
 | true=>
   rcases d.num v _ hx hp with⟨h,_⟩|⟨w,y,a,b,c,e,f,_⟩
   ·grind
   grind
include g
theorem N8.fit(o:∀v,u.ej.length<=v->as v = -1):Fit u as:=by
 have lt:∀{v w:Nat},as v=(w:Int)->v<u.ej.length:=by grind
 have p:∀{v},v<u.ej.length->0<=as v:=λ{v} hv=>by obtain⟨w,h,_⟩:=d.pos hv;omega
 have gl:∀{w},mq u w->w<u.ej.length:=λ⟨_,h,_⟩=>by grind
 have fl:∀{s fs},u.eo[s]? =some fs->∀w∈gL fs,w<u.ej.length:=λ{s fs} hs w a=>by
  unfold gL at a;obtain⟨f,r,a⟩:=UE.1 a;obtain⟨_,_,l,q⟩:=(g.st s fs hs).2.2 f r
  grind
 refine⟨λv hv _=>?_,λv w b k e i=>?_,λv w e t=>?_,λv x hx _ w a=>p (gl (g.use v x hx w a)),by grind,λb B z q=>p ?_,by grind⟩
 ·obtain⟨w,l,q,m,_⟩:=d.pos hv
  grind
 ·obtain ⟨w',l,_,_,n⟩:=d.pos (g.iM _ _ _ i);obtain rfl:w=w':=by omega
  rcases n with rfl|⟨⟨c,j,b',k',D,A,E⟩,_⟩
  ·grind
  ·obtain⟨rfl,rfl⟩:=g.Ao _ _ _ _ _ i A
   grind
 ·obtain ⟨w',l,_,_,n⟩:=d.pos (lt e);obtain rfl:w=w':=by omega
  rcases n with rfl|⟨_,y,C,hp⟩
  ·exact t
  ·refine⟨y,C,?_⟩;rw[rj]at hp;unfold Jk
   grind
 ·rcases g.fin b B z with⟨m,_⟩|⟨_,_,m⟩|⟨m,_⟩
  ·omega
  ·simp_all
  ·omega
end
open Dm
def qq(n:Int):Int:=n % 18446744073709551616
def vQ(n:Int):Int:=if n<9223372036854775808 then n else n-18446744073709551616
def IW(b:Bool):Int:=if b=true then 1 else 0
def Bh(op:Nat) (a b:Int):Int:=
 if op=3 then qq (a+b) else if op=4 then qq (a-b) else if op=5 then qq (a*b)
 else if op=6 then(if vQ b=0 then 0 else if vQ b = -1 then qq (-a) else qq ((vQ a).tdiv (vQ b)))
 else if op=7 then(if vQ b=0\/vQ b = -1 then 0 else qq ((vQ a).tmod (vQ b)))
 else if op=8 then qq (-a) else if op=9 then IW (decide (a=0)) else if op=10 then IW (decide (a=b)) else if op=11 then IW (decide (a≠b))
 else if op=12 then IW (decide (vQ a<vQ b)) else if op=13 then IW (decide (vQ a<=vQ b)) else if op=14 then IW (decide (a<b)) else 0
def vj(h:List Int)(a:Int):Int:=h.getD a.toNat 0
def Nz(h:List Int)(a v:Int):List Int:=if a=0 then h else h.set a.toNat v
def zx(x:Vl) (val:Nat->Int) (h:List Int):Int:=
 if x.op=2 then qq x.n else if x.op=15 then vj h (val x.a) / 4294967296 else if x.op=16 then vj h (val x.a) % 4294967296
 else if x.op=17 then vj h (qq (val x.a+qq x.n)) else if x.op=18 then vj h (qq (qq (val x.a+1)+val x.b))
 else if x.op=8\/x.op=9 then Bh x.op (val x.a) 0 else Bh x.op (val x.a) (val x.b)
structure Rs where
 val:List Int
 heap:List Int
 steps:Nat
 polls:Nat
def Rs.of(s:Rs)(v:Nat):Int:=s.val.getD v 0
structure Fw where
 func:Int
 pc:Int
 locals:List Int
 stack:List Int
inductive Ex where
 |zQ
 |left (steps:Nat) (fr:List Fw) (heap:List Int)
 |stuck
def rz(u:U)(s:Rs)(st:Nat):Ex:= .left s.steps (((u.eo[st]?).getD []).map λf=>⟨f.func,f.pc,f.locals.map s.of,f.stack.map s.of⟩) s.heap
def pA(u:U) (gv:Int) (n:Nat) (x:Vl) (s:Rs):Ex ⊕ Rs:=
 if x.op=19 then .inr {s with heap:=Nz s.heap (qq (s.of x.a+qq x.n)) (s.of x.b),steps:=s.steps+1}
 else if x.op=20 then .inr {s with heap:=Nz s.heap (qq (qq (s.of x.a+1)+s.of x.b)) (s.of (x.args.getD 0 0)),steps:=s.steps+1}
 else if x.op=22 then(if s.of x.a=0 then .inl (rz u {s with steps:=s.steps+1} x.state) else .inr {s with steps:=s.steps+1})
 else if x.op=23 then(if 0<=gv/\(s.polls:Int)=gv then .inl (rz u {s with steps:=s.steps+1} x.state) else .inr {s with steps:=s.steps+1,polls:=s.polls+1})
 else .inr {s with val:=s.val.set n (zx x s.of s.heap),steps:=s.steps+1}
def nP(u:U) (gv:Int) (fuel:Nat):List Nat->Rs->Ex ⊕ Rs
 |[],s=> .inr s
 | n ::l,s=>if fuel<=s.steps then .inl .zQ else match u.ej[n]? with
   |none=> .inl .stuck
   | some x=>match pA u gv n x s with
     | .inl e=> .inl e
     | .inr s=>nP u gv fuel l s
def fL(u:U) (v:Nat):Bool:=match u.ej[v]? with
 |some x=>hZ x.op
 |none=>false
def tY(u:U) (locals:List Int) (lV:Option Nat) (B:Bk) (val:Nat->Int) (v:Nat):Int:=match u.ej[v]? with
 | some x=>if x.op=1 then locals.getD x.n.toNat 0 else match lV with
   | some p=>match B.fh.findIdx? (·== p)with
     |some j=>val (x.args.getD j 0)
     |none=>0
   |none=>0
 |none=>0
def vW(val:List Int)(l:List (Nat×Int)):List Int:=l.foldl (λa p=>a.set p.1 p.2) val
def jQ(u:U) (locals:List Int) (lV:Option Nat) (B:Bk) (s:Rs):Rs:=
 let hs:=B.ej.takeWhile (fL u)
 {s with val:=vW s.val (hs.map λv=>(v,tY u locals lV B s.of v)),steps:=s.steps+hs.length}
def pN(B:Bk)(s:Rs):Option Nat:=if B.fin=1 then B.next[0]? else if B.fin=2 then(if s.of B.cond=0 then B.next[1]? else B.next[0]?) else none
def runM(u:U) (locals:List Int) (gv:Int) (fuel:Nat):Nat->Option Nat->Nat->Rs->Ex
 |0,_,_,_=> .stuck
 | zs+1,lV,b,s=>match u.blocks[b]? with
   |none=> .stuck
   | some B=>match nP u gv fuel (B.ej.dropWhile (fL u)) (jQ u locals lV B s)with
     | .inl e=>e
     | .inr s=>if fuel<=s.steps then .zQ else if B.fin=3 then rz u {s with steps:=s.steps+1} B.state else match pN B s with
       |none=> .stuck
       |some t=>runM u locals gv fuel zs (some b) t {s with steps:=s.steps+1}
def ny(u:U)(heap:List Int):Rs:=⟨List.replicate u.ej.length 0,heap,0,0⟩
def Ex.As:Ex->Ex->Prop
 | .left n fr h,.left n' fr' h'=>n'<=n/\fr' = fr/\h' = h
 | .left _ _ _,_=>False
 |_,_=>True
section
variable{u:U}{as:Nat->Int}
structure Alike (u:U) (as:Nat->Int) (s s':Rs):Prop where
 len:s.val.length=u.ej.length
 Sa:s'.val.length=(fM u as).length
 val:∀v∈fM u as,s'.of ((fM u as).idxOf v)=s.of v
 heap:s'.heap=s.heap
 steps:s'.steps<=s.steps
 polls:s'.polls=s.polls
structure Way (u:U) (as:Nat->Int) (locals:List Int) (gv:Int) (heap:List Int) (I:Nat->Nat->Rs->Prop):Prop where
 start:∀B,u.blocks[0]? =some B->I 0 (B.ej.takeWhile (fL u)).length (jQ u locals none B (ny u heap))
 yD:∀b t B T s,u.blocks[b]? =some B->u.blocks[t]? =some T->t∈B.next->I b B.ej.length s->s.val.length=u.ej.length->I t (T.ej.takeWhile (fL u)).length (jQ u locals (some b) T {s with steps:=s.steps+1})
 one:∀b k v x s a,At u v b k->u.ej[v]? =some x->fL u v=false->I b k s->s.val.length=u.ej.length->pA u gv v x s = .inr a->I b (k+1) a
 use:∀b k w (r:Nat) s,I b k s->s.val.length=u.ej.length->qw u w b k->as w=(r:Int)->s.of r=s.of w
theorem y6{l:List Int} {i j:Nat} {x:Int} (hi:i<l.length):(l.set i x).getD j 0=if j=i then x else l.getD j 0:=by
 grind
theorem AJ(l:List (Nat×Int)):∀val,(vW val l).length=val.length:=by
 induction l with
 |nil=>exact λ_=>rfl
 | cons p l a=>
   grind[vW,Lj]
theorem yI{f:Nat->Int} {j:Nat}:∀(l:List Nat) val,(∀v∈l,v<val.length)->(vW val (l.map λv=>(v,f v))).getD j 0=if j∈l then f j else val.getD j 0
 |[],_,_=>by rfl
 | v::l,val,h=>by
   show(vW (val.set v (f v)) (l.map λv=>(v,f v))).getD j 0=_;rw[yI l _ (by simp_all),y6 (by simp_all)]
   grind
end
theorem rU{u:U} {w b:Nat} {B:Bk} (a:u.blocks[b]? =some B) (h:sP u w b):qw u w b B.ej.length:=by
 let⟨c,j,AE,hd⟩:=h
 refine⟨c,j,AE,?_⟩;by_cases e:c=b
 ·subst e
  let⟨B',d,f⟩:=AE
  grind
 simp_all
section
variable{u:U}{P:Nat->Prop}{as:Nat->Int}[hP:WU P as] (g:Gd u P)(f:Fit u as){I:Nat->Nat->Rs->Prop}{locals:List Int}{gv:Int}{heap:List Int}(W:Way u as locals gv heap I)
include g f W
theorem QP{b k w:Nat} {s s':Rs} (d:I b k s) (a:Alike u as s s') (hs:qw u w b k) (h0:0<=as w):s'.of (nm u as w)=s.of w:=by
 let⟨c,j,AE,_⟩:=id hs
 let⟨r,e,h,i⟩:=WN g f (g.iM _ _ _ AE) h0
 rw[i,a.val r h];exact W.use b k w r s d a.len hs e
theorem On{b k st:Nat} {s s':Rs} {fs:List Fm} (h:I b k s) (d:Alike u as s s') (f:st∈Ik u as) (c:u.eo[st]? =some fs) (hs:∀w∈gL fs,qw u w b k/\0<=as w) :
  ∃fr,rz u {s with steps:=s.steps+1} st = .left (s.steps+1) fr s.heap/\rz (gU u as) {s' with steps:=s'.steps+1} ((Ik u as).idxOf st) = .left (s'.steps+1) fr s.heap:=by
 refine ⟨_,rfl,?_⟩;unfold rz;rw[Vd f c,c,d.heap];simp only[Option.getD_some,List.map_map];congr 1;refine Ym λa g=>?_;have e:∀l:List Nat,(∀w∈l,w∈gL fs)->(l.map (nm u as)).map s'.of=l.map s.of:=λl i=>by
  grind[Ym,QP]
 show Fw.mk a.func a.pc ((a.locals.map (nm u as)).map s'.of) ((a.stack.map (nm u as)).map s'.of)=_;rw[e a.locals (by grind[gL,Ti]),e a.stack (by grind[gL,wBY])];rfl
variable (FO:∀(v b k:Nat)(x:Vl),At u v b k->u.ej[v]? =some x->stays as v=false->x.op≠19/\x.op≠20/\(x.op=22->∀s,I b k s->s.of x.a≠0)/\x.op≠23)
include FO
omit g f W FO in
theorem yV {x:Vl}:(two x.op=true->x.op≠21->x.a∈gG x/\x.b∈gG x)/\(ml x.op=true->x.op≠21->x.a∈gG x):=by
 constructor
 ·intro h h1;unfold gG
  grind
 ·intro h h1;unfold gG
  grind
omit FO in
theorem zek {b k v:Nat} {x:Vl} {s s':Rs} (AE:At u v b k) (hx:u.ej[v]? =some x) (hh:fL u v=false) (hst:stays as v=true) (hI:I b k s) (ha:Alike u as s s') :
  (∀n fr hp,pA u gv v x s = .inl (.left n fr hp)->∃n',n'<=n/\pA (gU u as) gv ((fM u as).idxOf v) (ir u as x) s' = .inl (.left n' fr hp))/\
  (∀s1,pA u gv v x s = .inr s1->∃s1',pA (gU u as) gv ((fM u as).idxOf v) (ir u as x) s' = .inr s1'/\Alike u as s1 s1'):=by
 have h21:x.op≠21:=by grind[fL,hZ]
 have hvl:=(jo.1 hx).1;have hm:v∈fM u as:=(jd g).2 ⟨hvl,hst⟩;have eu:∀w∈gG x,s'.of (nm u as w)=s.of w:=λw hw=>QP g f W hI ha (g.yo v b k x AE hx h21 w hw) (f.use v x hx hst w hw);have ea:two x.op=true\/ml x.op=true->s'.of (ir u as x).a=s.of x.a:=λh=>by
  have:(ir u as x).a=nm u as x.a:=by
   show(if _ then nm u as x.a else x.a)=_;rcases h with h|h
   ·simp_all
   ·grind
  grind[yV]
 have eb:two x.op=true->s'.of (ir u as x).b=s.of x.b:=by simp_all[ir,nm,if_pos,yV]
 have hop:=g.op v x hx;have stp:=ha.steps;have pol:=ha.polls;have hp:=ha.heap;have goH:∀(q q':List Int),q' = q->Alike u as {s with heap:=q,steps:=s.steps+1} {s' with heap:=q',steps:=s'.steps+1}:=λq q' e=>⟨ha.len,ha.Sa,ha.val,e,by simp only;omega,pol⟩
 have lv:leaves x.op=true->∃fs,u.eo[x.state]? =some fs/\(ir u as x).state=(Ik u as).idxOf x.state/\x.state∈Ik u as/\∀w∈gL fs,qw u w b k/\0<=as w:=λhl=>by
  have hs0:=g.leave v x hx hl;have hfs:=gN hs0;exact⟨_,hfs,if_pos hl,zfm g hst hx hl,λw hw=>⟨g.Dv v b k x _ AE hx hl hfs w hw,f.st v x _ hx hst hl hfs w hw⟩⟩
 unfold pA;rw[show(ir u as x).op=x.op from rfl,show(ir u as x).n=x.n from rfl];by_cases h19:x.op=19
 ·have e2:two x.op=true:=by rw[h19];rfl
  simp_all
 rw[if_neg h19,if_neg h19];by_cases h20:x.op=20
 ·have e2:two x.op=true:=by rw[h20];rfl
  rw [if_pos h20,if_pos h20];refine⟨λ_ _ _ h=>(nomatch h),λs1 h=>?_⟩;cases h;refine⟨_,rfl,goH _ _ ?_⟩;have hl:=g.putAt v x hx h20;have eC:s'.of ((ir u as x).args.getD 0 0)=s.of (x.args.getD 0 0):=by
   have:(ir u as x).args=x.args.map (nm u as):=if_pos (.inr h20);rw[this]
   match hq:x.args,hl with
   | [w],_=>
     simp_all[gG,if_neg,if_pos]
  simp_all
 rw[if_neg h20,if_neg h20];by_cases h22:x.op=22
 ·have e1:ml x.op=true:=by rw[h22];rfl
  rw[if_pos h22,if_pos h22,ea (.inr e1)];obtain⟨fs,l1,l2,l3,l4⟩:=lv (by rw[h22];rfl);by_cases hz:s.of x.a=0
  ·rw[if_pos hz,if_pos hz];refine⟨λn fr q h=>?_,λ_ h=>(nomatch h)⟩;obtain⟨fr',g1,g2⟩:=On g f W hI ha l3 l1 l4
   grind
  simp_all
 rw[if_neg h22,if_neg h22];by_cases h23:x.op=23
 ·rw [if_pos h23,if_pos h23,pol];obtain⟨fs,l1,l2,l3,l4⟩:=lv (by rw[h23];rfl);by_cases hz:0<=gv/\(s.polls:Int)=gv
  ·rw[if_pos hz,if_pos hz];refine⟨λn fr q h=>?_,λ_ h=>(nomatch h)⟩;obtain⟨fr',g1,g2⟩:=On g f W hI ha l3 l1 l4
   grind
  ·rw[if_neg hz,if_neg hz];refine⟨λ_ _ _ h=>(nomatch h),λs1 h=>?_⟩;cases h;exact⟨_,rfl,ha.len,ha.Sa,ha.val,hp,by simp only;omega,by simp only⟩
 rw [if_neg h23,if_neg h23];refine⟨λ_ _ _ h=>(nomatch h),λs1 h=>?_⟩;cases h;have eV:zx (ir u as x) s'.of s'.heap=zx x s.of s.heap:=by
  have h1:x.op≠1:=by grind[fL,hZ]
  unfold zx;rw[show(ir u as x).op=x.op from rfl,show(ir u as x).n=x.n from rfl,hp];have ht:x.op≠2->two x.op=true\/ml x.op=true:=λh2=>by
   unfold two ml;simp only[OK,vU,zX,Bg];omega
  by_cases h2:x.op=2
  ·rw[if_pos h2,if_pos h2]
  rw [if_neg h2,if_neg h2,ea (ht h2)];have htw:x.op≠15->x.op≠16->x.op≠17->¬(x.op=8\/x.op=9)->two x.op=true:=λa1 a2 a3 a4=>by
   unfold two;simp only[OK,vU,zX,Bg];omega
  by_cases h15:x.op=15
  ·rw[if_pos h15,if_pos h15]
  rw[if_neg h15,if_neg h15];by_cases h16:x.op=16
  ·rw[if_pos h16,if_pos h16]
  rw[if_neg h16,if_neg h16];by_cases h17:x.op=17
  ·rw[if_pos h17,if_pos h17]
  rw[if_neg h17,if_neg h17];by_cases h18:x.op=18
  ·simp_all
  rw[if_neg h18,if_neg h18];by_cases h89:x.op=8\/x.op=9
  ·rw[if_pos h89,if_pos h89]
  ·simp_all
 rw[eV];refine⟨_,rfl,by simp only[Lj];exact ha.len,by simp only[Lj];exact ha.Sa,λw hw=>?_,hp,by simp only;omega,pol⟩;show(s'.val.set _ _).getD _ 0=(s.val.set _ _).getD _ 0;rw[y6 (by rw[ha.Sa];exact List.idxOf_lt_length_of_mem hm),y6 (by rw[ha.len];exact hvl)];by_cases e:w=v
 ·subst e;rw[if_pos rfl,if_pos rfl]
 ·rw[if_neg e,if_neg λh=>e (QY hw hm h)];exact ha.val w hw
theorem Wx{fuel b:Nat} {B:Bk} (y:u.blocks[b]? =some B):∀l k s s',B.ej.drop k=l->k+l.length=B.ej.length->(∀v∈l,fL u v=false)->I b k s->Alike u as s s'->
  (∀n fr hp,nP u gv fuel l s = .inl (.left n fr hp)->∃p,p<=n/\nP (gU u as) gv fuel ((l.filter (stays as)).map (fM u as).idxOf) s' = .inl (.left p fr hp))/\
  (∀d,nP u gv fuel l s = .inr d->∃a,nP (gU u as) gv fuel ((l.filter (stays as)).map (fM u as).idxOf) s' = .inr a/\Alike u as d a/\I b B.ej.length d)
 | [],k,s,s',hl,hk,_,hI,ha=>by
   refine⟨λn fr hp h=>(nomatch h),λd h=>?_⟩;cases h;have hk:k=B.ej.length:=by simpa using hk
   subst hk
   exact⟨s',rfl,ha,hI⟩
 | v ::l,k,s,s',hl,hk,hh,hI,ha=>by
   have m:k<B.ej.length:=by rw[VS]at hk;omega
   rw[YD m]at hl
   let⟨hv,hl'⟩:=List.cons.inj hl
   have c:At u v b k:=⟨B,y,by rw[<-hv];exact gN m⟩
   have o:=g.iM _ _ _ c;have hx:=gN o;generalize u.ej[v]=x at hx;have i:=hh v (by simp);have q:=λd a r t=>Wx y (fuel:=fuel) l (k+1) d a hl' (by grind) (by simp_all) r t;show(∀n fr hp,(if fuel<=s.steps then _ else _)=_->_)/\(∀d,(if fuel<=s.steps then _ else _)=_->_);by_cases hf:fuel<=s.steps
   ·simp_all
   rw[if_neg hf,hx];simp only;have z:=ha.steps
   cases hst:stays as v with
   | true=>
     have A:v∈fM u as:=by grind[jd]
     have e:((v::l).filter (stays as)).map (fM u as).idxOf=(fM u as).idxOf v::(l.filter (stays as)).map (fM u as).idxOf:=by rw[wBm,if_pos hst];rfl
     rw[e];show(∀n fr hp,_->∃p,p<=n/\(if fuel<=s'.steps then _ else _)=_)/\(∀d,_->∃a,(if fuel<=s'.steps then _ else _)=_/\_);rw[if_neg (by omega),RB (Ia A) hx];simp only
     let⟨G,C⟩:=zek g f W c hx i hst hI ha
     cases hq:pA u gv v x s with
     | inl e=>
       grind
     | inr d=>
       let⟨a,D,E⟩:=C _ hq
       rw[D]
       exact q d a (W.one b k v x s d c hx i hI ha.len hq) E
   | false=>
     have e:((v::l).filter (stays as)).map (fM u as).idxOf=(l.filter (stays as)).map (fM u as).idxOf:=by rw[wBm,if_neg (by simp_all)]
     rw[e]
     let⟨d1,d2,d3,d4⟩:=FO v b k x c hx hst
     by_cases j:x.op=22
     ·have hq:pA u gv v x s = .inr {s with steps:=s.steps+1}:=by
        unfold pA;rw[if_neg d1,if_neg d2,if_pos j,if_neg (d3 j s hI)]
      rw[hq];exact q _ s' (W.one b k v x s _ c hx i hI ha.len hq) ⟨ha.len,ha.Sa,ha.val,ha.heap,by simp only;omega,ha.polls⟩
     have hq:pA u gv v x s = .inr {s with val:=s.val.set v (zx x s.of s.heap),steps:=s.steps+1}:=by
       unfold pA;rw[if_neg d1,if_neg d2,if_neg j,if_neg d4]
     rw[hq];refine q _ s' (W.one b k v x s _ c hx i hI ha.len hq) ⟨by simp[Lj];exact ha.len,ha.Sa,λw F=>?_,ha.heap,by grind,ha.polls⟩;rw[ha.val w F];show _=(s.val.set _ _).getD _ 0;rw[y6 (by rw[ha.len];exact o),if_neg (by grind[jd])];rfl
omit f W FO in
theorem E7 {b:Nat} {B:Bk} (hB:u.blocks[b]? =some B):∀v∈B.ej.dropWhile (fL u),fL u v=false:=by
 have e:=wAq (p:=fL u) (l:=B.ej)
 cases hd:B.ej.dropWhile (fL u)with
 |nil=>simp_all
 | cons w r=>
   have hw:fL u w=false:=by
     have:=List.head?_dropWhile_not (fL u) B.ej;rw[hd]at this;simpa using this
   intro v hv
   cases hq:fL u v with
   |false=>rfl
   | true=>
     exfalso;rw[hd]at e;generalize B.ej.takeWhile (fL u)=hs at e;obtain⟨n,hn⟩:=mn.1 hv;have a1:At u v b (hs.length+n):=⟨B,hB,by rw[<-e,wAy (by omega)];rw[Nat.add_sub_cancel_left];exact hn⟩
     have a2:At u w b hs.length:=⟨B,hB,by rw[<-e,wAy (by omega),Nat.sub_self];rfl⟩
     have hx:=gN (g.iM _ _ _ a1);have hy:=gN (g.iM _ _ _ a2)
     grind[fL,RR]
omit g f W FO in
theorem EV {p:Nat->Bool} {x:Nat}:∀{l:List Nat},x∈l.takeWhile p->p x=true
 |[],h=>by cases h
 | a ::l,h=>by
   rw[List.takeWhile_cons]at h;split at h
   ·rename_i ha
    rcases Ki.1 h with rfl|h
    ·exact ha
    ·exact EV h
   ·cases h
omit g f W FO in
theorem I8 {p:Nat->Bool}:∀{a b:List Nat},(∀x∈a,p x=true)->(∀x∈b,p x=false)->(a++b).takeWhile p=a/\(a++b).dropWhile p=b
 | [],b,_,hb=>by
   cases b <;> simp_all
 | x::a,b,ha,hb=>by
   obtain⟨h1,h2⟩:=I8 (a:=a) (b:=b) (by simp_all) hb
   simp_all
omit f W FO in
theorem ZQ {v:Nat} (hv:v∈fM u as):fL (gU u as) ((fM u as).idxOf v)=fL u v:=by
 have hx:=gN ((jd g).1 hv).1;unfold fL;rw[RB (Ia hv) hx,hx];rfl
omit f W FO in
theorem WZ {b:Nat} {B:Bk} (hB:u.blocks[b]? =some B) :
  (mP u as B).ej.takeWhile (fL (gU u as))=((B.ej.takeWhile (fL u)).filter (stays as)).map (fM u as).idxOf/\(mP u as B).ej.dropWhile (fL (gU u as))=((B.ej.dropWhile (fL u)).filter (stays as)).map (fM u as).idxOf:=by
 have e:(mP u as B).ej=((B.ej.takeWhile (fL u)).filter (stays as)).map (fM u as).idxOf++((B.ej.dropWhile (fL u)).filter (stays as)).map (fM u as).idxOf:=by
  rw[<-Mw,<-wBp,wAq];rfl
 have Nn:∀v∈B.ej,stays as v=true->v∈fM u as:=λv hv hs=>by
  obtain⟨k,hk⟩:=mn.1 hv;exact(jd g).2 ⟨g.iM v b k ⟨B,hB,hk⟩,hs⟩
 rw[e];refine I8 (λx hx=>?_) λx hx=>?_
 ·obtain⟨v,hv,rfl⟩:=Kj.1 hx
  grind[ZQ,wBA,EV]
 ·obtain⟨v,hv,rfl⟩:=Kj.1 hx
  grind[ZQ,List.dropWhile_subset,E7]
omit f W FO in
theorem Za {b:Nat} {B:Bk} {lV:Option Nat} {s s':Rs} (hB:u.blocks[b]? =some B) (ha:Alike u as s s')
  (zgL:∀(v k:Nat) (x:Vl) (j p a:Nat),At u v b k->stays as v=true->u.ej[v]? =some x->x.op=21->lV=some p->B.fh[j]? =some p->x.args[j]? =some a->s'.of (nm u as a)=s.of a) :
  Alike u as (jQ u locals lV B s) (jQ (gU u as) locals lV (mP u as B) s'):=by
 obtain ⟨e1,_⟩:=WZ (as:=as) g hB;have XX:∀v∈B.ej.takeWhile (fL u),∃k,At u v b k:=λv hv=>by
  obtain⟨k,hk⟩:=mn.1 (wBA _ hv);exact⟨k,B,hB,hk⟩
 have hw:∀v∈B.ej.takeWhile (fL u),stays as v=true->tY (gU u as) locals lV (mP u as B) s'.of ((fM u as).idxOf v)=tY u locals lV B s.of v:=by
  intro v hv hs;obtain⟨k,AE⟩:=XX v hv;have hvl:=g.iM _ _ _ AE;have hx:=gN hvl;generalize u.ej[v]=x at hx;have hm:v∈fM u as:=by grind[jd]
  unfold tY;rw[RB (Ia hm) hx,hx];show(if x.op=1 then _ else _)=(if x.op=1 then _ else _)
  by_cases h1:x.op=1
  ·rw[if_pos h1,if_pos h1];rfl
  rw [if_neg h1,if_neg h1];have h21:x.op=21:=by
   have:=EV hv;unfold fL at this;rw[hx]at this;unfold hZ at this;rw[OK,Bg,Bg]at this;omega
  cases hf:lV with
  |none=>rfl
  | some p=>
    show (match B.fh.findIdx? (·== p)with
      |some j=>s'.of ((ir u as x).args.getD j 0)
      |none=>0)=(match B.fh.findIdx? (·== p)with
      |some j=>s.of (x.args.getD j 0)
      |none=>0)
    cases hj:B.fh.findIdx? (·== p)with
    |none=>rfl
    | some j=>
      simp only;obtain⟨hjl,hjp,_⟩:=wBS.1 hj;rw[Bg]at hjp;have hpl:=(g.Cd v b k x B AE hx h21 hB).2;have hja:x.args[j]? =some x.args[j]:=by simp_all
      have e:(ir u as x).args=x.args.map (nm u as):=if_pos (.inl h21)
      grind
 unfold jQ;simp only;rw[e1];have hv0:∀v∈B.ej.takeWhile (fL u),v<s.val.length:=λv hv=>by
  obtain⟨k,AE⟩:=XX v hv;rw[ha.len];exact g.iM _ _ _ AE
 refine⟨by simp only[AJ];exact ha.len,by simp only[AJ];exact ha.Sa,λv hv=>?_,ha.heap,?_,ha.polls⟩
 ·show (vW s'.val _).getD _ 0=(vW s.val _).getD _ 0;rw[yI _ _ hv0,yI _ _ λw hw=>by
   obtain⟨v',hv',rfl⟩:=Kj.1 hw;obtain⟨h1,h2⟩:=Lz.1 hv';obtain⟨k,AE⟩:=XX v' h1;rw[ha.Sa];exact List.idxOf_lt_length_of_mem ((jd g).2 ⟨g.iM _ _ _ AE,h2⟩)]
  by_cases hm:v∈B.ej.takeWhile (fL u)
  ·rw[if_pos hm,if_pos (Kj.2 ⟨v,by grind[jd],rfl⟩)]
   grind[jd]
  ·rw [if_neg hm,if_neg λh=>by
    obtain⟨v',hv',e⟩:=Kj.1 h;obtain⟨h1,h2⟩:=Lz.1 hv';obtain⟨k,AE⟩:=XX v' h1;obtain rfl:=QY ((jd g).2 ⟨g.iM _ _ _ AE,h2⟩) hv e
    simp_all]
   exact ha.val v hv
 ·simp only[Er];have:=Zu (stays as) (B.ej.takeWhile (fL u));have:=ha.steps;omega
theorem Y9{fuel:Nat}:∀zs lV b B s s',u.blocks[b]? =some B->Alike u as s s'->
  ((lV=none/\b=0/\s=ny u heap)\/∃p P o i,lV=some p/\u.blocks[p]? =some P/\b∈P.next/\I p P.ej.length o/\Alike u as o i/\s = {o with steps:=o.steps+1}/\s' = {i with steps:=i.steps+1})->
  (runM u locals gv fuel zs lV b s).As (runM (gU u as) locals gv fuel zs lV b s')
 |0,_,_,_,_,_,_,_,_=>trivial
 | zs+1,lV,b,B,s,s',hB,ha,he=>by
   have E:Alike u as (jQ u locals lV B s) (jQ (gU u as) locals lV (mP u as B) s'):=by
     refine Za g hB ha λv k x j p a F hs hx G A hp hq=>?_;rcases he with⟨z,_⟩|⟨N,P,o,i,z,h,C,q,H,rfl,rfl⟩
     ·simp_all
     ·rw[z]at A
      cases A;exact QP g f W (s:=o) (s':=i) q H (rU h (g.AU v b k x B F hx G hB j a p hq hp)) (f.use v x hx hs a (by
        unfold gG
        grind))
   have J:I b (B.ej.takeWhile (fL u)).length (jQ u locals lV B s):=by
     rcases he with⟨rfl,rfl,rfl⟩|⟨N,P,o,i,rfl,h,C,q,H,rfl,rfl⟩
     ·exact W.start B hB
     ·exact W.yD N b P B o h hB C q H.len
   let⟨_,Q⟩:=WZ (as:=as) g hB
   have hlen:(B.ej.takeWhile (fL u)).length+(B.ej.dropWhile (fL u)).length=B.ej.length:=by
     rw[<-Lw,wAq]
   have K:B.ej.drop (B.ej.takeWhile (fL u)).length=B.ej.dropWhile (fL u):=by
     have e:=wAq (p:=fL u) (l:=B.ej);generalize B.ej.takeWhile (fL u)=a at e⊢;generalize B.ej.dropWhile (fL u)=d at e⊢;rw[<-e];exact List.drop_left' rfl
   obtain⟨R,S⟩:=Wx g f W FO hB _ _ _ _ K hlen (E7 g hB) J E;unfold runM;rw[hB,U6 hB];simp only;rw[Q]
   cases hq:nP u gv fuel (B.ej.dropWhile (fL u)) (jQ u locals lV B s)with
   | inl e=>
     simp only
     cases e with
     |zQ=>exact trivial
     |stuck=>exact trivial
     | left n fr hp=>
       let⟨n',z,h⟩:=R n fr hp hq
       rw[h]
       exact⟨z,rfl,rfl⟩
   | inr D=>
     let⟨r,z,h,C⟩:=S D hq
     rw[z];simp only;have T:=h.steps;by_cases A:fuel<=D.steps
     ·rw[if_pos A];exact trivial
     rw[if_neg A,if_neg (show ¬fuel<=r.steps by omega)];show Ex.As (if B.fin=3 then _ else _) (if B.fin=3 then _ else _);by_cases c:B.fin=3
     ·rw[if_pos c,if_pos c]
      have L:B.state<u.eo.length:=by
        rcases g.fin b B hB with⟨q,_⟩|⟨q,_⟩|⟨_,_,q⟩
        ·omega
        ·omega
        ·exact q
      have y:=gN L
      let⟨fr,U,V⟩:=On g f W C h (zdu hB c) y λw O=>⟨rU hB (g.Dp b B _ hB c y w O),f.out b B _ hB c y w O⟩
      rw[U,show(mP u as B).state=(Ik u as).idxOf B.state from if_pos c,V];exact⟨by omega,rfl,rfl⟩
     rw[if_neg c,if_neg c];have X:pN (mP u as B) r=pN B D:=by
       unfold pN;show(if B.fin=1 then B.next[0]? else if B.fin=2 then(if r.of (if B.fin=2 then nm u as B.cond else B.cond)=0 then B.next[1]? else B.next[0]?) else none)=_;by_cases m:B.fin=2
       ·rw[if_pos m,if_pos m,if_pos m,QP g f W C h (rU hB (g.Ay b B hB m)) (f.cond b B hB m)]
       ·simp_all
     rw[X]
     cases hn:pN B D with
     |none=>exact trivial
     | some t=>
       simp only;have ht:t∈B.next:=by
         unfold pN at hn
         repeat' split at hn
         all_goals grind
       have M:=g.nx b t (by grind[next]);exact Y9 zs (some b) t _ _ _ (gN M) ⟨h.len,h.Sa,h.val,h.heap,by simp_all,h.polls⟩ (by grind)
theorem QR{fuel:Nat} (zs:Nat):(runM u locals gv fuel zs none 0 (ny u heap)).As (runM (gU u as) locals gv fuel zs none 0 (ny (gU u as) heap)):=by
 have a:(gU u as).ej.length=(fM u as).length:=by
  show((fM u as).map _).length=_;rw[Er]
 refine Y9 g f W FO zs none 0 _ _ _ (gN (g.I5)) ⟨by simp[ny],by grind[ny],λv _=>?_,rfl,iZ _,rfl⟩ (by simp_all);have e:∀n m,(List.replicate n (0:Int)).getD m 0=0:=by grind
 exact(e _ _).trans (e _ _).symm
end
open Dm
theorem Ye{u:U} (g:Good u) {as:Nat->Int} (d:Sb u as) (a:∀v,u.ej.length<=v->as v = -1) (locals:List Int) (gv:Int) (fuel zs:Nat) (heap:List Int) :
  (runM u locals gv fuel zs none 0 (ny u heap)).As (runM (gU u as) locals gv fuel zs none 0 (ny (gU u as) heap)):=by
 refine QR g (d.fit g a) (I:=λ_ _ _=>True) ⟨λ_ _=>trivial,λ_ _ _ _ _ _ _ _ _ _=>trivial,λ_ _ _ _ _ _ _ _ _ _ _ _=>trivial,λb k w r s _ _ hs e=>?_⟩ (λv _ _ x _ hx hs=>?_) zs
 ·let ⟨c,j,AE,_⟩:=hs
  rcases d w (g.iM _ _ _ AE)with⟨f,_⟩|⟨f,_⟩
  ·obtain rfl:r=w:=by omega
   rfl
  ·omega
 ·have hv:=(jo.1 hx).1;have i:¬Live u v:=λh=>by
   rcases d v hv with⟨e,_⟩|⟨_,h'⟩
   ·unfold stays at hs;rw[e,beq_self_eq_true]at hs;cases hs
   ·exact h' h
  have h:=λe=>i (.root (.inl ⟨x,hx,e⟩));refine⟨λe=>h (by omega),λe=>h (by omega),λe _=>(h (by omega)).elim,λe=>h (by omega)⟩
theorem Kf{x:Vl} {f i:Nat->Int} {h:List Int} (hp:jJ x.op=true) (j:∀w∈gG x,f w=i w):zx x f h=zx x i h:=by
 rw[rj]at hp;have e:x.op≠21:=by omega
 have k:x.op≠2->f x.a=i x.a:=λg=>by
  by_cases ht:two x.op=true
  ·exact j _ (yV.1 ht e).1
  ·refine j _ (yV.2 ?_ e);unfold two at ht;unfold ml;simp[ vU]at ht⊢;omega
 have l:=λht=>j _ (yV.1 ht e).2;unfold zx;by_cases g:x.op=2
 ·rw[if_pos g,if_pos g]
 rw[if_neg g,if_neg g,k g];by_cases b:x.op=15
 ·rw[if_pos b,if_pos b]
 rw[if_neg b,if_neg b];by_cases c:x.op=16
 ·rw[if_pos c,if_pos c]
 rw[if_neg c,if_neg c,if_neg (by omega),if_neg (show ¬x.op=17 by omega),if_neg (by omega),if_neg (show ¬x.op=18 by omega)];by_cases d:x.op=8\/x.op=9
 ·rw[if_pos d,if_pos d]
 ·rw [if_neg d,if_neg d,l (by
   unfold two;simp[OK,vU,zX,Bg];omega)]
theorem ZP{x y:Vl} {as:Nat->Int} {f:Nat->Int} {h:List Int} (hp:jJ x.op=true) (hk:keyOf as y=keyOf as x) (o:∀(i a a':Nat),(gG x)[i]? =some a->(gG y)[i]? =some a'->as a=as a'->f a=f a')
  (u:∀w,w∈gG x\/w∈gG y->0<=as w):zx y f h=zx x f h:=by
 have k:y.op=x.op:=congrArg (·.1) hk;have l:J5 as (gG y) 0=J5 as (gG x) 0:=congrArg (·.2.1) hk;have m:J5 as (gG y) 1=J5 as (gG x) 1:=congrArg (·.2.2.1) hk;have p:(if y.op=2 then y.n else 0)=if x.op=2 then x.n else 0:=congrArg (·.2.2.2) hk
 rw [rj]at hp;have j:∀z,z.op=x.op->gG z=if two x.op=true then[z.a,z.b] else if ml x.op=true then[z.a] else[]:=λz r=>by
  unfold gG;rw[r,if_neg (by omega),if_neg (by omega)]
 have s:x.op≠2->f y.a=f x.a:=λg=>by
  have h0:(gG x)[0]? =some x.a/\(gG y)[0]? =some y.a:=by
   rw[j x rfl,j y k];by_cases ht:two x.op=true
   ·rw[if_pos ht,if_pos ht];exact⟨rfl,rfl⟩
   ·rw [if_neg ht,if_neg ht];have q:ml x.op=true:=by
     unfold two at ht;unfold ml;simp[OK,vU,zX,Bg]at ht⊢;omega
    rw[if_pos q,if_pos q];exact⟨rfl,rfl⟩
  refine(o 0 _ _ h0.1 h0.2 ?_).symm;unfold J5 at l;rw[h0.1,h0.2]at l;exact l.symm
 have t:=λht=>by
  have h0:(gG x)[1]? =some x.b/\(gG y)[1]? =some y.b:=by
   rw[j x rfl,j y k,if_pos ht,if_pos ht];exact⟨rfl,rfl⟩
  refine(o 1 _ _ h0.1 h0.2 ?_).symm;unfold J5 at m;rw[h0.1,h0.2]at m;exact m.symm
 unfold zx;rw[k];by_cases g:x.op=2
 ·rw[if_pos g,if_pos g];rw[if_pos (by omega),if_pos g]at p;rw[p]
 rw[if_neg g,if_neg g,s g];by_cases c:x.op=15
 ·rw[if_pos c,if_pos c]
 rw[if_neg c,if_neg c];by_cases d:x.op=16
 ·rw[if_pos d,if_pos d]
 rw[if_neg d,if_neg d,if_neg (by omega),if_neg (show ¬x.op=17 by omega),if_neg (by omega),if_neg (show ¬x.op=18 by omega)];by_cases e:x.op=8\/x.op=9
 ·rw[if_pos e,if_pos e]
 ·rw [if_neg e,if_neg e,t (by
   unfold two;simp[OK,vU,zX,Bg];omega)]
theorem U4{u:U} (g:Good u) {a v b k c j:Nat} (d:qw u a c j) (hv:At u v c j) (f:qw u v b k) (hb:b<u.blocks.length):qw u a b k:=by
 let⟨i,m,a1,d⟩:=d
 let⟨c2,o,a2,f⟩:=f
 obtain⟨rfl,rfl⟩:=g.Ao _ _ _ _ _ hv a2;refine⟨i,m,a1,?_⟩;rcases d with⟨rfl,d⟩|⟨n,d⟩ <;> rcases f with⟨rfl,f⟩|⟨h,f⟩
 ·exact .inl ⟨rfl,by omega⟩
 ·exact .inr ⟨h,f⟩
 ·exact .inr ⟨n,d⟩
 ·refine .inr ⟨λe=>?_,d.trans f⟩;subst e
  let⟨l,hl⟩:=g.reach _ hb
  exact h (f.VY d hl)
theorem Y0{u:U} (g:Good u) {a v b k c j:Nat} (hb:b<u.blocks.length) (h:At u a b k) (hv:At u v c j) (e:qw u a c j) (d:qw u v b k):False:=by
 let⟨m,n,a1,e⟩:=e
 obtain⟨rfl,rfl⟩:=g.Ao _ _ _ _ _ h a1
 let⟨c2,o,a2,d⟩:=d
 obtain⟨rfl,rfl⟩:=g.Ao _ _ _ _ _ hv a2;rcases e with⟨rfl,e⟩|⟨i,e⟩
 ·rcases d with⟨_,d⟩|⟨f,_⟩
  ·omega
  ·exact f rfl
 ·rcases d with⟨rfl,_⟩|⟨f,d⟩
  ·exact i rfl
  ·let⟨l,hl⟩:=g.reach _ hb
   exact f (d.VY e hl)
structure zgm (u:U) (as:Nat->Int) (hp:List Int) (b k:Nat) (s:Rs):Prop where
 heap:s.heap=hp
 eqn:∀v x,u.ej[v]? =some x->jJ x.op=true->qw u v b k->s.of v=zx x s.of hp
 same:∀v w:Nat,as v=(w:Int)->qw u v b k->s.of w=s.of v
theorem zaw{u:U} (g:Good u) {as:Nat->Int} (d:N8 u as) (aa:∀v,u.ej.length<=v->as v = -1) (ae:∀(v:Nat) x,u.ej[v]? =some x->x.op≠19/\x.op≠20) (locals:List Int) (gv:Int) (fuel zs:Nat) (heap:List Int) :
    (runM u locals gv fuel zs none 0 (ny u heap)).As (runM (gU u as) locals gv fuel zs none 0 (ny (gU u as) heap)):=by
  have ag:∀{v b k:Nat},At u v b k->b<u.blocks.length:=λ⟨B,h,_⟩=>(jo.1 h).1;have n:∀{v:Nat} {x:Vl},u.ej[v]? =some x->fL u v=true->jJ x.op=false:=λ{v x} hx N=>by
    unfold fL at N;rw[hx]at N;unfold hZ at N;rw[OK,Bg,Bg]at N
    cases hq:jJ x.op with
    |false=>rfl
    |true=>rw[rj]at hq;omega
  have Q:∀{t:Nat} {T:Bk} {lV:Option Nat} {s:Rs},u.blocks[t]? =some T->s.val.length=u.ej.length->∀v,(v ∉ T.ej.takeWhile (fL u))->(jQ u locals lV T s).of v=s.of v:=by
    intro t T lV s J O v hv;show(vW s.val _).getD v 0=_;rw[yI _ _ λw hw=>by
      let⟨k,hk⟩:=mn.1 (wBA _ hw)
      rw[O];exact g.iM w t k ⟨T,J,hk⟩,if_neg hv]
    rfl
  have ah:∀{t:Nat} {T:Bk} {v c j:Nat},u.blocks[t]? =some T->At u v c j->v∈T.ej.takeWhile (fL u)->c=t/\fL u v=true:=by
    intro t T v c j J f hv
    let⟨k,hk⟩:=mn.1 (wBA _ hv)
    exact⟨(g.Ao _ _ _ _ _ f ⟨T,J,hk⟩).1,EV hv⟩
  have E:∀{t:Nat} {T:Bk} {v j:Nat},u.blocks[t]? =some T->At u v t j->j<(T.ej.takeWhile (fL u)).length->fL u v=true:=by
    intro t T v j J f Z
    let⟨T',K,D⟩:=f
    rw[J]at K;cases K;have e:=wAq (p:=fL u) (l:=T.ej);rw[<-e,VU Z]at D;exact EV (zD D)
  have L:∀{v w:Nat},fL u v=true->v<u.ej.length->as v=(w:Int)->w=v:=by
    intro v w N hv e;have hx:=gN hv;have:=d.stay v _ hx (n hx N);omega
  refine QR g (d.fit g aa) (I:=zgm u as heap) ⟨λB hB=>?_,λb t B T s hB J ht F O=>?_,λb k v x s s1 f hx N F O H=>?_,λb k w r s F _ hs e=>F.same w r e hs⟩ (λv _ _ x _ hx hs=>?_) zs
  ·have hd:∀{v:Nat},qw u v 0 (B.ej.takeWhile (fL u)).length->fL u v=true/\v<u.ej.length:=λ{v} ⟨c,j,f,hc⟩=>by
     refine⟨?_,g.iM _ _ _ f⟩;rcases hc with⟨rfl,Z⟩|⟨m,S⟩
     ·exact E hB f Z
     ·have:=S _ .nil
      exact absurd (by simpa using this) m
   refine⟨rfl,λv x hx hp hs=>?_,λv w e hs=>?_⟩
   ·rw[n hx (hd hs).1]at hp;cases hp
   ·rw[L (hd hs).1 (hd hs).2 e]
  ·have ai:t∈next u b:=by unfold next;rw[hB];exact ht
   have V:=(jo.1 hB).1;have aj:=(jo.1 J).1;have ab:({s with steps:=s.steps+1}:Rs).val.length=u.ej.length:=O;have Ae:∀{v c j:Nat},At u v c j->(c=t/\j<(T.ej.takeWhile (fL u)).length\/c≠t/\mz (next u) c t)->fL u v≠true->c≠t/\qw u v b B.ej.length:=by
     intro v c j f hc hn;rcases hc with⟨rfl,Z⟩|⟨m,S⟩
     ·exact absurd (E J f Z) hn
     ·refine⟨m,rU hB ⟨c,j,f,λl O=>?_⟩⟩
      have:=S _ (.step O ai);rcases Ki.1 this with h|h
      ·exact absurd h m
      ·exact h
   have fk:∀{v c j:Nat},At u v c j->c≠t->(jQ u locals (some b) T {s with steps:=s.steps+1}).of v=s.of v:=λ{v c j} f m=>Q J ab v λh=>m (ah J f h).1;refine⟨F.heap,λv x hx hp hs=>?_,λv w e hs=>?_⟩
   ·let ⟨c,j,f,hc⟩:=id hs
    let⟨m,o⟩:=Ae f hc λh=>by rw[n hx h]at hp;cases hp
    have ak:x.op≠21:=by rw[rj]at hp;omega
    rw[fk f m,F.eqn v x hx hp o];refine Kf hp λa G=>?_
    let⟨c',j',RG,hc'⟩:=g.yo v c j x f hx ak a G
    refine(fk RG λe=>?_).symm;subst e;rcases hc' with⟨e,_⟩|⟨aq,al⟩
    ·exact m e.symm
    ·rcases hc with⟨e,_⟩|⟨_,hd⟩
     ·exact m e
     ·let⟨l,O⟩:=g.reach _ aj
      exact m (hd.VY al O)
   ·let ⟨c,j,f,hc⟩:=id hs
    by_cases N:fL u v=true
    ·rw[L N (g.iM _ _ _ f) e]
    ·let ⟨m,o⟩:=Ae f hc N
     let⟨w',K,_,_,W⟩:=d.pos (g.iM _ _ _ f)
     obtain rfl:w=w':=by omega
     rcases W with rfl|⟨_,y,R,ac⟩
     ·rfl
     ·rw[fk f m,Q J ab w λh=>by rw[n R (EV h)]at ac;cases ac]
      exact F.same v w e o
  ·have V := ag f
   have ad:=g.iM _ _ _ f
   let⟨n1,n2⟩:=ae v x hx
   have other:∀z,z≠v->s1.of z=s.of z:=λz C=>by
     unfold pA at H;rw[if_neg n1,if_neg n2]at H
     repeat' split at H
     all_goals cases H
     all_goals first|rfl|exact(y6 (by rw[O];exact ad)).trans (if_neg C)
   have X:s1.heap=heap:=by
     unfold pA at H;rw[if_neg n1,if_neg n2]at H
     repeat' split at H
     all_goals first|(cases H;exact F.heap)|cases H
   have self:jJ x.op=true->s1.of v=zx x s.of heap:=λhp=>by
     rw[rj]at hp;unfold pA at H;rw[if_neg n1,if_neg n2,if_neg (by omega),if_neg (by omega)]at H;cases H;rw[<-F.heap];exact(y6 (by rw[O];exact ad)).trans (if_pos rfl)
   have cut:∀{z:Nat},qw u z b (k+1)->z=v\/(z≠v/\qw u z b k):=λ{z} ⟨c,j,C,hc⟩=>by
     by_cases e:z=v
     ·exact .inl e
     refine .inr ⟨e,c,j,C,?_⟩;rcases hc with⟨rfl,Z⟩|hc
     ·refine .inl ⟨rfl,?_⟩
      by_cases hjk:j=k
      ·subst hjk
       let⟨B,K,D⟩:=f
       let⟨B',Y,W⟩:=C
       rw[K]at Y;cases Y;rw[D]at W;exact absurd (Option.some.inj W).symm e
      ·omega
     ·exact .inr hc
   have M:∀{z c j:Nat},At u z c j->qw u z b k->∀{a},qw u a c j->a≠v:=λ{z c j} C hs {a} G e=>by
     subst e;exact Y0 g V f C G hs
   have A:∀{w z c j:Nat},GM u w z->At u z c j->qw u w c j:=λ{w z c j} ⟨c1,j1,b1,k1,K,D,Y⟩ C=>by
     obtain⟨rfl,rfl⟩:=g.Ao _ _ _ _ _ C D;exact⟨c1,j1,K,Y⟩
   have par:∀{z:Nat} {y:Vl} {c j:Nat},u.ej[z]? =some y->jJ y.op=true->At u z c j->∀a∈gG y,qw u a c j:=λ{z y c j} R hp C a G=>g.yo z c j y C R (by rw[rj]at hp;omega) a G;refine⟨X,λz y R hp hs=>?_,λz w e hs=>?_⟩
   ·rcases cut hs with rfl|⟨m,o⟩
    ·rw[hx]at R;cases R
     rw[self hp];refine Kf hp λa G=>(other a λe=>?_).symm;subst e
     let⟨c,j,K,D⟩:=par hx hp f a G
     obtain⟨rfl,rfl⟩:=g.Ao _ _ _ _ _ f K;rcases D with⟨_,D⟩|⟨D,_⟩
     ·omega
     ·exact D rfl
    ·rw[other z m,F.eqn z y R hp o]
     let⟨c,j,C,_⟩:=id o
     exact Kf hp λa G=>(other a (M C o (par R hp C a G))).symm
   ·rcases cut hs with rfl|⟨m,o⟩
    ·cases hp:jJ x.op with
     | false=>
       have:=d.stay z x hx hp;obtain rfl:w=z:=by omega
       rfl
     | true =>
       rcases d.num z x hx hp with⟨h,_⟩|⟨w',y,K,D,Y,W,h5,h6⟩
       ·obtain rfl:w=z:=by omega
        rfl
       ·obtain rfl:w=w':=by omega
        have P:=A h5 f;have am:w≠z:=λe=>by
          subst e
          let⟨c,j,g1,g2⟩:=P
          obtain⟨rfl,rfl⟩:=g.Ao _ _ _ _ _ f g1;rcases g2 with⟨_,g2⟩|⟨g2,_⟩
          ·omega
          ·exact g2 rfl
        rw[other w am,self hp,F.eqn w y D Y P]
        let⟨cw,jw,hatw,_⟩:=id P
        refine ZP hp h6 (λi a a' G an ao=>?_) λa G=>?_
        ·have sa:=par hx hp f a (zD G)
         have ap:=U4 g (par D Y hatw a' (zD an)) hatw P V
         let⟨_,_,hata,_⟩:=id sa
         let⟨r,g1,_⟩:=d.pos (g.iM _ _ _ hata)
         rw[<-F.same a r g1 sa,<-F.same a' r (by rw[<-ao];exact g1) ap]
        ·have:a<u.ej.length:=by
           rcases G with h|h
           ·let⟨_,q,_⟩:=g.use z x hx a h
            exact(jo.1 q).1
           ·let⟨_,q,_⟩:=g.use w y D a h
            exact(jo.1 q).1
         let⟨r,g1,_⟩:=d.pos this
         omega
    ·rw[other z m]
     let⟨c,j,C,_⟩:=id o
     let⟨w',K,_,_,W⟩:=d.pos (g.iM _ _ _ C)
     obtain rfl:w=w':=by omega
     rcases W with rfl|⟨h5,_⟩
     ·exact other w m
     ·rw[other w (M C o (A h5 C))]
      exact F.same z w e o
  ·have hv:=(jo.1 hx).1
   cases hp:jJ x.op with
   | false=>
     have:=d.stay v x hx hp;unfold stays at hs;rw[this,beq_self_eq_true]at hs
     cases hs
   | true=>
     rw[rj]at hp;omega
open Dm
abbrev oX:=Nat×Int×Int×Int
theorem wo{as qW:Nat->Int} {x:Vl} (h:∀w∈gG x,qW w=as w):keyOf qW x=keyOf as x:=by
 grind[J5,gG,keyOf]
def KR(u:U) (P O:Nat->Prop) (as:Nat->Int) (k:oX) (w:Nat):Prop:=∃y c i,P w/\u.ej[w]? =some y/\jJ y.op=true/\as w=(w:Int)/\At u w c i/\O c/\keyOf as y=k
structure NW (u:U) (P O:Nat->Prop) (as:Nat->Int) (S:oX->Option Nat):Prop where
 stay:∀v,v<u.ej.length->¬P v->as v=(v:Int)
 imp:∀v x,u.ej[v]? =some x->jJ x.op=false->as v=(v:Int)
 num:∀v x,P v->u.ej[v]? =some x->jJ x.op=true->
  (as v=(v:Int)/\∀w y,u.ej[w]? =some y->jJ y.op=true->as w=(w:Int)->GM u w v->keyOf as y≠keyOf as x)\/
  ∃(w:Nat) (y:Vl),as v=(w:Int)/\u.ej[w]? =some y/\jJ y.op=true/\as w=(w:Int)/\GM u w v/\keyOf as y=keyOf as x
 closed:∀v w,P v->GM u w v->P w
 known:∀k w,S k=some w↔KR u P O as k w
def DH(u:U)(P:Nat->Prop)(as:Nat->Int)(c:Nat)(l:List oX):Prop:=∀k,k∈l↔∃w,KR u P (·= c) as k w
def Pv(u:U)(Ly:Nat->Prop)(b k v:Nat):Prop:=∃c i,At u v c i/\(Ly c\/c=b/\i<k)
section
variable{u:U}(g:Good u){Ly O:Nat->Prop}{as:Nat->Int}{S:oX->Option Nat}{b k v:Nat}{x:Vl}
include g
theorem Jt{w p c i:Nat} {y:Vl} (a:At u w c i) (b:u.ej[w]? =some y) (hp:jJ y.op=true) (h:p∈gG y):GM u p w:=by
 rw[rj]at hp
 let⟨c',j,d,e⟩:=g.yo w c i y a b (by omega) p h
 exact⟨c',j,c,i,d,a,e⟩
theorem NW.part{P:Nat->Prop} (n:NW u P O as S) {w p:Nat} {y:Vl} (a:P w) (b:u.ej[w]? =some y) (hp:jJ y.op=true) (h:p∈gG y):P p:=by
 let⟨c,i,hc⟩:=g.B6 w (by grind) trivial
 exact n.closed w p a (by grind[Jt])
theorem HO(hb:¬Ly b) (hv:At u v b k) (Ma:∀c,c≠b->mz (next u) c b->Ly c) {w:Nat} (h:GM u w v):Pv u Ly b k w:=by
 let⟨c,j,b',k',d,e,a⟩:=h
 obtain⟨rfl,rfl⟩:=g.Ao _ _ _ _ _ hv e;rcases a with⟨rfl,a⟩|⟨a,f⟩
 ·exact⟨c,j,d,.inr ⟨rfl,a⟩⟩
 ·exact⟨c,j,d,.inl (Ma c a f)⟩
theorem JU(hb:¬Ly b) (hv:At u v b k):¬Pv u Ly b k v:=λ⟨c,i,a,d⟩=>by
 obtain⟨rfl,rfl⟩:=g.Ao _ _ _ _ _ hv a
 simp_all
omit g in
theorem zZ (hv:At u v b k) (w:Nat):Pv u Ly b (k+1) w↔Pv u Ly b k w\/w=v:=by
 constructor
 ·rintro ⟨c,i,h1,h2|⟨rfl,h2⟩⟩
  ·exact .inl ⟨c,i,h1,.inl h2⟩
  ·by_cases e:i=k
   ·subst e;obtain⟨B,e1,e2⟩:=h1;obtain⟨B',e3,e4⟩:=hv
    simp_all
   ·exact .inl ⟨c,i,h1,.inr ⟨rfl,by omega⟩⟩
 ·rintro(⟨c,i,h1,h2⟩|rfl)
  ·exact⟨c,i,h1,h2.imp id λh=>⟨h.1,by omega⟩⟩
  ·exact⟨b,k,hv,.inr ⟨rfl,by omega⟩⟩
theorem NW.step(n:NW u (Pv u Ly b k) O as S) (hb:¬Ly b) (hv:At u v b k) (hx:u.ej[v]? =some x) (Ma:∀c,c≠b->mz (next u) c b->Ly c) {qW:Nat->Int} (s:∀w,w≠v->qW w=as w) {D:oX->Option Nat}
  (E:jJ x.op=false->qW v=(v:Int))
  (F:jJ x.op=true->(qW v=(v:Int)/\∀w y,u.ej[w]? =some y->jJ y.op=true->as w=(w:Int)->GM u w v->keyOf as y≠keyOf as x)\/
   ∃(w:Nat) (y:Vl),qW v=(w:Int)/\u.ej[w]? =some y/\jJ y.op=true/\as w=(w:Int)/\GM u w v/\keyOf as y=keyOf as x)
  (H:∀j w,D j=some w↔S j=some w\/(w=v/\jJ x.op=true/\qW v=(v:Int)/\O b/\keyOf as x=j)):NW u (Pv u Ly b (k+1)) O qW D:=by
 have I:=JU g hb hv;have l:∀w,Pv u Ly b k w->qW w=as w:=by grind
 have f:∀{w y},Pv u Ly b k w->u.ej[w]? =some y->jJ y.op=true->keyOf qW y=keyOf as y:=λa o hp=>wo λp t=>l p (n.part g a o hp t);have G:jJ x.op=true->keyOf qW x=keyOf as x:=by grind[wo,HO,Jt]
 refine⟨λw J a=>?_,λw y o hp=>?_,λw y a o hp=>?_,λw w' a B=>?_,λj w=>?_⟩
 ·rw[zZ hv]at a;rw[s w (by omega)];exact n.stay w J (by simp_all)
 ·by_cases e:w=v
  ·simp_all
  ·rw[s w e];exact n.imp w y o hp
 ·rw [zZ hv]at a;rcases a with a|rfl
  ·rw [l w a,f a o hp];rcases n.num w y a o hp with⟨d,h⟩|⟨w',K,d,h,m,q,r,z⟩
   ·refine .inl ⟨d,λw' K L t M B=>?_⟩;have C:=n.closed w w' a B
    grind
   ·have C:=n.closed w w' a r
    grind
  grind[HO]
 ·rw[zZ hv]at a⊢;rcases a with a|rfl
  ·exact .inl (n.closed w w' a B)
  grind[HO]
 ·rw [H,n.known];constructor
  ·rintro(⟨y,c,i,d,h,m,q,r,z,A⟩|⟨rfl,d,h,m,q⟩)
   ·exact⟨y,c,i,(zZ hv w).2 (.inl d),h,m,by rw[l w d];exact q,r,z,by rw[f d h m];exact A⟩
   ·exact⟨x,b,k,(zZ hv w).2 (.inr rfl),hx,d,h,hv,m,by simp_all⟩
  ·rintro⟨y,c,i,d,h,m,q,r,z,A⟩;rcases(zZ hv w).1 d with d|rfl
   ·rw[l w d]at q;rw[f d h m]at A;exact .inl ⟨y,c,i,d,h,m,q,r,z,A⟩
   ·rw[hx]at h;cases h;obtain⟨rfl,rfl⟩:=g.Ao _ _ _ _ _ hv r
    simp_all
section
variable (n:NW u (Pv u Ly b k) O as S)(hb:¬Ly b)(hv:At u v b k)(hx:u.ej[v]? =some x)(Ma:∀c,c≠b->mz (next u) c b->Ly c)(hO:∀c,O c↔mz (next u) c b)
include n hb hv hx Ma
theorem NW.skip(hp:jJ x.op=false):NW u (Pv u Ly b (k+1)) O as S:=
 n.step g hb hv hx Ma (by omega) (λ_=>n.stay v (by grind) (JU g hb hv)) (by simp_all) (by simp_all)
include hO
theorem NW.there(hp:jJ x.op=true) {w:Nat} (hs:S (keyOf as x)=some w) {qW:Nat->Int} (f:qW v=(w:Int)) (a:∀w,w≠v->qW w=as w):NW u (Pv u Ly b (k+1)) O qW S:=by
 have j:=JU g hb hv
 let⟨y,c,i,l,m,o,p,d,z,q⟩:=(n.known _ _).1 hs
 have r:w≠v:=by grind
 refine n.step g hb hv hx Ma a (by simp_all) (λ_=> .inr ⟨w,y,f,m,o,p,⟨c,i,b,k,d,hv,?_⟩,q⟩) λs w'=>⟨.inl,λh=>h.elim id λh=>?_⟩
 ·by_cases e:c=b
  ·subst e
   let⟨c',i',t,A⟩:=l
   obtain⟨rfl,rfl⟩:=g.Ao _ _ _ _ _ d t
   simp_all
  simp_all
 omega
theorem NW.fresh(hp:jJ x.op=true) (hs:S (keyOf as x)=none) {d:oX->Option Nat} (m:d (keyOf as x)=some v) (r:∀k,k≠keyOf as x->d k=S k):NW u (Pv u Ly b (k+1)) O as d:=by
 have a:=n.stay v (by grind) (JU g hb hv);refine n.step g hb hv hx Ma (by omega) (by omega) (λ_=> .inl ⟨a,λw y o f p l hk=>?_⟩) λi w=>?_
 ·have q:=HO g hb hv Ma l
  let⟨c,j,b',k',a1,a2,a3⟩:=l
  obtain⟨rfl,rfl⟩:=g.Ao _ _ _ _ _ hv a2;have:=(n.known _ _).2 ⟨y,c,j,q,o,f,p,a1,(hO c).2 (a3.elim (λh=>by rw[h.1];exact mz.self _ _) λh=>h.2),hk⟩
  simp_all
 ·by_cases e:i=keyOf as x
  ·subst e;rw[m,hs];exact⟨λh=> .inr ⟨(Option.some.inj h).symm,hp,a,(by grind[mz.self]),rfl⟩,by simp_all⟩
  grind
end
theorem DH.step{c:Nat} {l:List oX} (a:DH u (Pv u Ly b k) as c l) (hb:¬Ly b) (hv:At u v b k) (hx:u.ej[v]? =some x) (o:∀w y,Pv u Ly b k w->u.ej[w]? =some y->jJ y.op=true->∀p∈gG y,Pv u Ly b k p) (q:jJ x.op=true->∀p∈gG x,Pv u Ly b k p) {qW:Nat->Int} (t:∀w,w≠v->qW w=as w)
  {s:List oX} (z:∀d,d∈s↔d∈l\/(c=b/\jJ x.op=true/\qW v=(v:Int)/\keyOf as x=d)):DH u (Pv u Ly b (k+1)) qW c s:=by
 have A:=JU g hb hv;have h:∀w,Pv u Ly b k w->qW w=as w:=by grind
 intro d;rw[z,a d];constructor
 ·rintro(⟨w,y,c',i,e,f,j,r,m,rfl,n⟩|⟨rfl,e,f,j⟩)
  ·exact⟨w,y,c',i,(by grind[zZ]),f,j,by simp_all,m,rfl,by grind[wo]⟩
  ·exact⟨v,x,c,k,(zZ hv v).2 (.inr rfl),hx,e,f,hv,rfl,by grind[wo]⟩
 ·rintro⟨w,y,c',i,e,f,j,r,m,rfl,n⟩;rcases(zZ hv w).1 e with e|rfl
  ·rw[h w e]at r;rw[wo λp hp=>h p (o w y e f j p hp)]at n;exact .inl ⟨w,y,c',i,e,f,j,r,m,rfl,n⟩
  ·rw[hx]at f;cases f;obtain⟨rfl,rfl⟩:=g.Ao _ _ _ _ _ hv m;rw[wo λp hp=>h p (q j p hp)]at n
   simp_all
end
open Dm
def kd(u:U)(I:Nat->Nat)(b:Nat):List Nat:=(List.range u.blocks.length).filter λt=>t != 0&&I t == b
theorem NB{u:U} {I:Nat->Nat} {b t:Nat}:t∈kd u I b↔t<u.blocks.length/\t≠0/\I t=b:=by
 simp_all[kd,Lz]
theorem zaD(u:U)(I:Nat->Nat)(b:Nat):(kd u I b).Nodup:=wBV.filter _
def Ux(u:U)(vl:List Nat)(v:Nat):Prop:=∃c i,At u v c i/\c∈vl
theorem RU{u:U}{vl:List Nat}{b:Nat}:Pv u (·∈vl) b 0=Ux u vl:=funext λ_=>propext ⟨λ⟨c,i,a,d⟩=>⟨c,i,a,d.elim id λh=>by omega⟩,λ⟨c,i,a,d⟩=>⟨c,i,a,.inl d⟩⟩
theorem zdr{u:U} {vl:List Nat} {b:Nat} {B:Bk} (e:u.blocks[b]? =some B):Pv u (·∈vl) b B.ej.length=Ux u (b::vl):=funext λv=>propext ⟨λ⟨c,i,a,d⟩=>⟨c,i,a,Ki.2 (d.elim .inr λh=> .inl h.1)⟩,λ⟨c,i,a,d⟩=>⟨c,i,a,(Ki.1 d).elim (λh=> .inr ⟨h,by
  subst h
  let⟨B',f,g⟩:=a
  grind⟩) .inl⟩⟩
theorem KR.mono{u:U}{P O a:Nat->Prop}{as:Nat->Int}{k:oX}{w:Nat}(h:∀c,O c->a c):KR u P O as k w->KR u P a as k w:=λ⟨y,c,i,b,d,e,f,g,j,l⟩=>⟨y,c,i,b,d,e,f,g,h c j,l⟩
structure NS (u:U) (I:Nat->Nat) (as:Nat->Int) (S:oX->Option Nat) (st:List (Nat×Nat×List oX)) (vl:List Nat):Prop where
 nw:NW u (Ux u vl) (λc=>c∈st.map (·.1)) as S
 add:∀f∈st,DH u (Ux u vl) as f.1 f.2.2
 nd:vl.Nodup
 vlt:∀b∈vl,b<u.blocks.length
 par:∀t∈vl,t≠0->I t∈vl
 cl:∀b∈vl,b ∉ st.map (·.1)->∀t∈kd u I b,t∈vl
 fr:∀f∈st,f.2.1<=(kd u I f.1).length/\∀j t,(kd u I f.1)[j]? =some t->(t∈vl↔j<f.2.1)
 sv:∀f∈st,f.1∈vl
 sn:(st.map (·.1)).Nodup
 ch:∀pre f post,st=pre++f::post->∀c,c∈pre.map (·.1)\/c=f.1↔qD I c f.1
 zero:0∈vl
section
variable{u:U}{I:Nat->Nat}{as:Nat->Int}{S:oX->Option Nat}{pre st:List (Nat×Nat×List oX)}{vl:List Nat}{b m:Nat}{l:List oX}
theorem NS.pop(g:Good u) (n:NS u I as S (pre++[(b,m,l)]) vl) (D:m=(kd u I b).length) {x:oX->Option Nat} (C:∀k,x k=if k∈l then none else S k):NS u I as x pre vl:=by
 have a:=n.sn;rw[Mw,wBO]at a;have hb:b ∉ pre.map (·.1):=by grind
 have hi:∀{f},f∈pre->f∈pre++[(b,m,l)]:=by simp_all
 have v:(b,m,l)∈pre++[(b,m,l)]:=by simp_all
 refine⟨⟨n.nw.stay,n.nw.imp,n.nw.num,n.nw.closed,λk w=>?_⟩,λf h=>n.add f (hi h),n.nd,n.vlt,n.par,λc hc E t ht=>?_,λf h=>n.fr f (hi h),λf h=>n.sv f (hi h),a.1,λp f q e=>n.ch p f (q++[(b,m,l)]) (by simp_all),n.zero⟩
 ·rw [C];by_cases hk:k∈l
  ·rw[if_pos hk]
   let⟨w',d⟩:=(n.add _ v k).1 hk
   have s:=(n.nw.known k w').2 (d.mono (by simp_all));refine⟨by simp_all,λh=>?_⟩;have o:=(n.nw.known k w).2 (h.mono (by simp_all));rw[s]at o;cases o
   let⟨_,c,i,_,_,_,_,a1,a2,_⟩:=d
   let⟨_,c',i',_,_,_,_,b1,b2,_⟩:=h
   obtain⟨rfl,rfl⟩:=g.Ao _ _ _ _ _ a1 b1
   simp_all
  ·rw [if_neg hk,n.nw.known];constructor
   ·rintro⟨y,c,i,d,s,o,z,A,r,B⟩;refine⟨y,c,i,d,s,o,z,A,?_,B⟩;rw[Mw]at r;rcases EG.1 r with r|r
    ·exact r
    ·obtain rfl:c=b:=by simp_all
     exact absurd ((n.add _ v k).2 ⟨w,y,c,i,d,s,o,z,A,rfl,B⟩) hk
   grind[KR.mono,Ti]
 ·by_cases e:c=b
  ·subst e
   let⟨j,hj⟩:=mn.1 ht
   have:=(jo.1 hj).1;exact((n.fr _ v).2 j t hj).2 (by simp_all)
  ·exact n.cl c hc (by simp_all) t ht
section
variable (n:NS u I as S (pre++[(b,m,l)]) vl){t:Nat}(ht:(kd u I b)[m]? =some t)
include n ht
theorem NS.new:t ∉ vl/\t<u.blocks.length/\t≠0/\I t=b:=by
 have a:=(n.fr (b,m,l) (by simp_all)).2 m t ht
 let⟨c,d,e⟩:=NB.1 (zD ht)
 simp_all
theorem NS.anc(c:Nat):(c∈(pre++[(b,m,l)]).map (·.1)\/c=t)↔qD I c t:=by
 let⟨_,_,a,d⟩:=n.new ht
 have h:=n.ch pre (b,m,l) [] rfl c;have h':c∈(pre++[(b,m,l)]).map (·.1)↔qD I c b:=by
  rw[<-h,Mw];simp
 rw[h'];constructor
 ·rintro(h|rfl)
  ·exact .up a (by simp_all)
  ·exact .refl _
 ·intro h
  cases h with
  |refl=>omega
  |up _ h=>simp_all
theorem NS.ready(g:Good u):NW u (Pv u (·∈vl) t 0) (λc=>c∈(pre++[(b,m,l)]).map (·.1)\/c=t) as S:=by
 rw[RU]
 let⟨h,_⟩:=n.new ht
 refine⟨n.nw.stay,n.nw.imp,n.nw.num,n.nw.closed,λk w=>?_⟩;rw[n.nw.known];refine⟨KR.mono λ_=> .inl,λ⟨y,c,i,a1,a2,a3,a4,a,d,f⟩=>⟨y,c,i,a1,a2,a3,a4,a,d.elim id λe=>?_,f⟩⟩;subst e
 let⟨c',i',b1,b2⟩:=a1
 obtain⟨rfl,rfl⟩:=g.Ao _ _ _ _ _ a b1
 simp_all
theorem NS.push(g:Good u) {qW:Nat->Int} {F:oX->Option Nat} {d:List oX} (R:NW u (Ux u (t::vl)) (λc=>c∈(pre++[(b,m,l)]).map (·.1)\/c=t) qW F) (G:DH u (Ux u (t::vl)) qW t d) (hk:∀c l,c≠t->DH u (Ux u vl) as c l->DH u (Ux u (t::vl)) qW c l) :
  NS u I qW F (pre++[(b,m+1,l)]++[(t,0,d)]) (t::vl):=by
 let⟨w,S,T,t4⟩:=n.new ht
 have x:(b,m,l)∈pre++[(b,m,l)]:=by simp_all
 have y:=n.sn;rw[Mw,wBO]at y;have hb:b ∉ pre.map (·.1):=by grind
 have H:=n.sv _ x;have r:∀c,c∈(pre++[(b,m+1,l)]++[(t,0,d)]:List (Nat×Nat×List oX)).map (·.1)↔c∈(pre++[(b,m,l)]).map (·.1)\/c=t:=by grind
 have J:t ∉ (pre++[(b,m,l)]).map (·.1):=λh=>by
  let⟨f,v,K⟩:=Kj.1 h
  exact w (K▸n.sv f v)
 have a:∀{P:Nat×Nat×List oX->Prop},(∀f∈pre,P f)->P (b,m+1,l)->P (t,0,d)->∀f∈pre++[(b,m+1,l)]++[(t,0,d)],P f:=by grind
 have hi:∀{f},f∈pre->f∈pre++[(b,m,l)]:=by grind
 have A:∀{f},f∈pre->f.1≠t:=by grind
 have B:b≠t:=by grind
 refine⟨?_,a (λf i=>hk _ _ (A i) (n.add f (hi i))) (show DH u (Ux u (t::vl)) qW b l from hk _ _ B (n.add _ x)) G,wBj.2 ⟨w,n.nd⟩,λc hc=>(Ki.1 hc).elim (by omega) (n.vlt c),λc hc h0=>?_,λc hc L s hs=>?_,a (λf i=>⟨(n.fr f (hi i)).1,λj s o=>?_⟩) ⟨?_,λj s o=>?_⟩ ⟨Mr _,λj s o=>?_⟩,a (λf i=>wBT _ (n.sv f (hi i))) (by grind) (by simp),?_,λp f q e c=>?_,wBT _ n.zero⟩
 ·have:(λc=>c∈(pre++[(b,m+1,l)]++[(t,0,d)]:List (Nat×Nat×List oX)).map (·.1))=λc=>c∈(pre++[(b,m,l)]).map (·.1)\/c=t:=funext (by grind)
  grind
 ·rcases Ki.1 hc with rfl|hc
  ·grind
  ·exact wBT _ (n.par c hc h0)
 ·rw[r]at L;rcases Ki.1 hc with rfl|hc
  ·omega
  ·exact wBT _ (n.cl c hc (by grind) s hs)
 ·have v:=(n.fr f (hi i)).2 j s o;rw[<-v,Ki];refine⟨λh=>h.elim (λe=>?_) id,.inr⟩;subst e;have:=(NB.1 (zD o)).2.2
  grind
 ·grind
 ·have v:=(n.fr _ x).2 j s o;show s∈t::vl↔j<m+1;rw[Ki,v];constructor
  ·rintro(rfl|h)
   ·grind[sY,zaD]
   grind
  grind
 ·let⟨U,M,N⟩:=NB.1 (zD o)
  refine⟨λh=>?_,by grind⟩;rcases Ki.1 h with rfl|h
  ·omega
  ·exact absurd ((show I s=t from N)▸n.par s h M) w
 ·grind
 ·rcases List.eq_nil_or_concat q with rfl|⟨C,z,rfl⟩
  ·let⟨D,E⟩:=List.append_inj' e rfl
   cases E;rw[<-D,<-n.anc ht c];simp
  ·have e':pre++[(b,m+1,l)]=p++f::C:=by
    have:pre++[(b,m+1,l)]++[(t,0,d)]=(p++f::C)++[z]:=by rw[e];simp
    exact(List.append_inj' this rfl).1
   rcases List.eq_nil_or_concat C with rfl|⟨k,O,rfl⟩
   ·let⟨D,E⟩:=List.append_inj' e' rfl
    cases E;subst D;exact n.ch pre (b,m,l) [] rfl c
   ·have Q:pre=p++f::k:=by
     have:pre++[(b,m+1,l)]=(p++f::k)++[O]:=by rw[e'];simp
     exact(List.append_inj' this rfl).1
    exact n.ch p f (k++[(b,m,l)]) (by grind) c
end
theorem nw0(u:U) {as:Nat->Int} (h:∀v,v<u.ej.length->as v=(v:Int)):NW u (Pv u (·∈([]:List Nat)) 0 0) (λc=>c=0) as (λ_=>none):=by
 have hp:∀v,¬Pv u (·∈([]:List Nat)) 0 0 v:=λv ⟨c,i,_,a⟩=>by
  simp_all
 exact⟨by simp_all,by grind,by simp_all,by simp_all,λk w=>⟨by simp_all,λ⟨_,_,_,b,_⟩=>by simp_all⟩⟩
theorem zdb{nx:Nat->List Nat}{c:Nat}:c=0↔mz nx c 0:=⟨by grind[mz.self],λh=>by simpa using h [0] .nil⟩
theorem NS.start(g:Good u) {l:List oX} (k:NW u (Ux u [0]) (λc=>c=0) as S) (m:DH u (Ux u [0]) as 0 l) (n:∀b,b≠0->b<u.blocks.length->I b≠b):NS u I as S [(0,0,l)] [0]:=by
 have nb:=g.I5;refine⟨?_,by simp_all,by simp,by grind,by simp_all,λb hb o=>?_,λf d=>?_,by simp_all,by simp,λpre f post e c=>?_,by simp⟩
 ·simp_all
 ·simp_all
 ·rw[Pl.1 d];refine⟨Mr _,λj t i=>⟨λh=>?_,by simp_all⟩⟩;exact absurd (Pl.1 h) (NB.1 (zD i)).2.1
 ·have hp:pre=[]:=by
   cases pre with
   |nil=>rfl
   |cons a pre=>simp_all
  subst hp;obtain⟨rfl,rfl⟩:=List.cons.inj e;refine⟨λh=>h.elim (by simp_all) λh=>h▸ .refl _,λh=>?_⟩
  cases h with
  |refl=>omega
  |up h0 _=>omega
theorem NS.done(g:Good u) {G:Gr} (a:Tree G I (λb=>b<u.blocks.length)) (n:NS u I as S [] vl):N8 u as:=by
 have all:∀k b,G.place b<=k->b<u.blocks.length->b∈vl:=by
  intro k
  induction k with
  | zero=>
    intro b hk hb;by_cases h0:b=0
    ·subst h0;exact n.zero
    ·have:=(a.up b hb h0).2;omega
  | succ k c=>
    intro b hk hb;by_cases h0:b=0
    ·subst h0;exact n.zero
    ·let⟨d,e⟩:=a.up b hb h0
     exact n.cl _ (by grind) (by simp) b (NB.2 ⟨hb,h0,rfl⟩)
 have hP:∀v,v<u.ej.length->Ux u vl v:=λv hv=>by
  let⟨b,k,h⟩:=g.B6 v hv trivial
  exact⟨b,k,h,all _ b (iZ _) (let⟨_,hB,_⟩:=h;(by grind))⟩
 exact⟨n.nw.imp,λv x hx hp=>n.nw.num v x (by grind) hx hp⟩
theorem NS.le(n:NS u I as S st vl):vl.length<=u.blocks.length:=by
 exact iP _ vl n.nd n.vlt
end
open Dm
def zK(v:Nat)(x:Vl):Vl:=if x.op=19\/x.op=20 then⟨2,0,0,(v:Int),[],0⟩ else x
def B5(u:U):U:={u with ej:=u.ej.mapIdx zK}
theorem Hz{v:Nat}{x:Vl}(h:¬(x.op=19\/x.op=20)):zK v x=x:=if_neg h
theorem LX{v:Nat}{x:Vl}(h:x.op=19\/x.op=20):zK v x=⟨2,0,0,(v:Int),[],0⟩:=if_pos h
theorem Uh{u:U} {v:Nat} {x:Vl} (h:u.ej[v]? =some x):(B5 u).ej[v]? =some (zK v x):=by
 show(u.ej.mapIdx zK)[v]? =_
 simp_all
theorem O9{u:U} {v:Nat} {y:Vl} (h:(B5 u).ej[v]? =some y):∃x,u.ej[v]? =some x/\y=zK v x:=by
 have h:(u.ej.mapIdx zK)[v]? =some y:=h
 grind
theorem qL{u:U} {v:Nat} {y:Vl} (h:(B5 u).ej[v]? =some y):u.ej[v]? =some y\/y=⟨2,0,0,(v:Int),[],0⟩:=by
 obtain⟨x,a,rfl⟩:=O9 h
 grind[LX,Hz]
theorem JD{u:U} {w:Nat} (h:mq u w):mq (B5 u) w:=by
 obtain⟨x,b,a⟩:=h;have:=Uh b;rw[Hz (by rintro(c|c) <;> rw[c]at a <;> cases a)]at this;exact⟨x,this,a⟩
theorem Yn{u:U} (g:Good u):Good (B5 u) where
 nv:=by show(u.ej.mapIdx zK).length<=_;rw[List.length_mapIdx];exact g.nv
 I5:=g.I5
 nb:=g.nb
 ns:=g.ns
 st:=λs fs h=>by
  obtain⟨e,a,d⟩:=g.st s fs h
  grind[JD]
 B6:=λv h _=>g.B6 v (by have h:v<(u.ej.mapIdx zK).length:=h;simp_all) trivial
 Ao:=g.Ao
 iM:=λv b k h=>by show v<(u.ej.mapIdx zK).length;rw[List.length_mapIdx];exact g.iM v b k h
 yD:=λv w b k x y e a d f i=>by
  rcases qL d with d|rfl
  ·rcases qL f with f|rfl
   ·exact g.yD v w b k x y e a d f i
   ·obtain ⟨z,n,o⟩:=O9 f;by_cases c:z.op=19\/z.op=20
    ·have:=g.yD v w b k x z e a d n i;unfold hZ at this
     grind
    ·rw[Hz c]at o;exact g.yD v w b k x _ e a d (o▸n) i
  ·cases i
 par:=λv b k x e a d=>by
  rcases qL a with a|rfl
  ·exact g.par v b k x e a d
  ·cases d
 Cd:=λv b k x B e a d f=>by
  rcases qL a with a|rfl
  ·exact g.Cd v b k x B e a d f
  ·cases d
 op:=λv x h=>by
  rcases qL h with h|rfl
  ·exact g.op v x h
  simp_all
 use:=λv x h w l=>by
  rcases qL h with h|rfl
  ·exact JD (g.use v x h w l)
  grind[absurd,gG,two,ml]
 leave:=λv x h q=>by
  rcases qL h with h|rfl
  ·exact g.leave v x h q
  ·cases q
 putAt:=λv x h m=>by
  rcases qL h with h|rfl
  ·exact g.putAt v x h m
  ·cases m
 param:=λv x h m=>by
  rcases qL h with h|rfl
  ·obtain⟨e,a,d⟩:=g.param v x h m;refine⟨e,a,λw y r t=>?_⟩;rcases qL r with r|rfl
   ·simp_all
   simp_all
  ·cases m
 fin:=λb B h=>by
  rcases g.fin b B h with h|⟨e,a,d⟩|h
  ·omega
  ·grind[JD]
  ·exact .inr (.inr h)
 nx:=g.nx
 fh:=g.fh
 zG:=g.zG
 FY:=g.FY
 reach:=g.reach
 yo:=λv b k x e a d w l=>by
  rcases qL a with a|rfl
  ·exact g.yo v b k x e a d w l
  grind[absurd,gG,two,ml]
 AU:=λv b k x B e a d f j w p i A=>by
  rcases qL a with a|rfl
  ·exact g.AU v b k x B e a d f j w p i A
  ·cases d
 Dv:=λv b k x fs e a d f w l=>by
  rcases qL a with a|rfl
  ·exact g.Dv v b k x fs e a d f w l
  ·cases d
 Ay:=g.Ay
 Dp:=g.Dp
