/- Parts. -/
import Derived.Test.YtkpicojjjifmgaaGreatDoorM13
namespace Go.Proofs.YtkpicojjjifmgaaGreatDoor.Un
open Dm
def lY(l:List Nat):List Nat:=l.foldl (λa s=>if s∈a then a else a++[s]) []
theorem yB(l:List Nat) (s:Nat):lY (l++[s])=if s∈lY l then lY l else lY l++[s]:=by
 grind[lY]
theorem Mc{P:List Nat->Prop} (h0:P []) (hs:∀l s,P l->P (l++[s])) (l:List Nat):P l:=by
 have:∀r:List Nat,P r.reverse:=λr=>by
  induction r <;> grind
 rw[<-List.reverse_reverse l]
 grind
theorem uz(l:List Nat):∀x,x∈lY l↔x∈l:=by
 induction l using Mc with
 |h0=>exact λ_=>Iff.rfl
 | hs l s a=>
   grind[yB,Nf,id]
theorem OL(l:List Nat):(lY l).Nodup:=by
 induction l using Mc with
 |h0=>exact List.nodup_nil
 | hs l s a=>
   grind[yB,wBj,List.nodup_cons,List.nodup_nil,Nf]
theorem F0{l:List Nat} {x:Nat} (h:x∈l):l[l.idxOf x]? =some x:=by
 grind
theorem zS{l:List Nat} (a:l.Nodup) {i j x:Nat} (hi:l[i]? =some x) (b:l[j]? =some x):i=j:=by
 grind[jR,Zm,wBi,absurd]
theorem zb1{l:List Nat}(a:l.Nodup){i x:Nat}(h:l[i]? =some x):l.idxOf x=i:=by grind
theorem UC{l:List Nat} {x y:Nat} (a:x∈l) (b:y∈l) (h:l.idxOf x=l.idxOf y):x=y:=by
 grind[F0,Option.some.inj]
theorem OK{p:Nat->Bool}:∀{l:List Nat} {k v:Nat},l[k]? =some v->p v=true->(l.filter p)[((l.take k).filter p).length]? =some v
 |[],k,v,h,_=>by simp_all
 | a::l,0,v,h,hp=>by
   simp_all
 | a::l,k+1,v,h,hp=>by
   have b:=OK (l:=l) (k:=k) (by simp_all) hp
   grind
theorem Z9{p:Nat->Bool} {l:List Nat} {j k w:Nat} (h:l[j]? =some w) (hp:p w=true) (a:j<k):((l.take j).filter p).length<((l.take k).filter p).length:=by
 obtain ⟨b,rfl⟩:=jR.1 h;have e:l.take k=l.take j++l[j]::((l.take k).drop (j+1)):=by
  conv=>lhs;rw[<-Ym j (l.take k)]
  rw[List.take_take,wBm (by omega)];congr 1;rw[Ys (by grind),List.getElem_take]
 grind
section
variable (u:U)(as:Nat->Int)
def stays(v:Nat):Bool:=as v == (v:Int)
def fL:List Nat:=u.blocks.flatMap λB=>B.eh.filter (stays as)
def xR:Nat->Nat->Nat
 |0,v=>v
 |k+1,v=>if 0<=as v/\as v≠(v:Int) then xR k (as v).toNat else v
def nm(v:Nat):Nat:=if xR as (u.eh.length+1) v∈fL u as then(fL u as).idxOf (xR as (u.eh.length+1) v) else 0
def JZ:List Nat:=(fL u as).filterMap (λn=>match u.eh[n]? with
  |some x=>if leaves x.op=true then some x.state else none
  |none=>none)++u.blocks.filterMap λB=>if B.fin=3 then some B.state else none
def GL:List Nat:=lY (JZ u as)
def ij(x:Vl):Vl where
 op:=x.op
 a:=if 0<(if two x.op=true then 2 else if pY x.op=true then 1 else 0) then nm u as x.a else x.a
 b:=if two x.op=true then nm u as x.b else x.b
 n:=x.n
 args:=if x.op=21\/x.op=20 then x.args.map (nm u as) else x.args
 state:=if leaves x.op=true then(GL u as).idxOf x.state else x.state
def na(B:Bk):Bk where
 eh:=(B.eh.filter (stays as)).map (fL u as).idxOf
 fin:=B.fin
 cond:=if B.fin=2 then nm u as B.cond else B.cond
 next:=B.next
 fh:=B.fh
 state:=if B.fin=3 then(GL u as).idxOf B.state else B.state
def U8(f:Fm):Fm:=⟨f.func,f.pc,f.locals.map (nm u as),f.stack.map (nm u as)⟩
def ji:U where
 func:=u.func
 pc:=u.pc
 eh:=(fL u as).map λn=>ij u as (u.eh.getD n ⟨0,0,0,0,[],0⟩)
 blocks:=u.blocks.map (na u as)
 en:=(GL u as).map λs=>(u.en.getD s []).map (U8 u as)
end
def Zn(u:U):Prop:=∀(v:Nat) (b:Nat) (k:Nat) (a:Nat) (k':Nat),At u v b k->At u v a k'->b=a/\k=k'
theorem HV{u:U} (c:Zn u) {b:Nat} {B:Bk} (a:u.blocks[b]? =some B):B.eh.Nodup:=by
 refine Zm.2 λi j hi d f e=>?_;have g:At u B.eh[i] b i:=⟨B,a,hO hi⟩
 have h:At u B.eh[i] b j:=⟨B,a,by rw[e];exact hO d⟩
 have:=(c _ _ _ _ _ g h).2;omega
theorem zK{u:U} {as:Nat->Int} (g:Zn u):(fL u as).Nodup:=by
 unfold fL;have b:∀(l:List Bk) (i:Nat),(∀k B,l[k]? =some B->u.blocks[i+k]? =some B)->(l.flatMap λB=>B.eh.filter (stays as)).Nodup:=by
  intro l
  induction l with
  |nil=>simp_all
  | cons B l j=>
    intro i h;rw[wB1,wBj];have m:u.blocks[i]? =some B:=h 0 B rfl;refine⟨by grind[HV],j (i+1) λk C f=>by rw[show i+1+k=i+(k+1) by omega];simp_all,λa n c hc e=>?_⟩;subst e;obtain⟨C,o,d⟩:=RT.1 hc;obtain⟨k,f⟩:=oD.1 o;obtain⟨p,q⟩:=oD.1 (PU.1 n).1;obtain⟨r,s⟩:=oD.1 (PU.1 d).1;have:=(g a i p (i+(k+1)) r ⟨B,m,q⟩ ⟨C,h (k+1) C (by simpa using f),s⟩).1;omega
 exact b u.blocks 0 (by simp_all)
theorem Pt.short{nx:Nat->List Nat} {x:Nat}:∀{b l},Pt nx b l->x∈l->x≠b->∃a,Pt nx x a/\a.length<l.length
 | _,_,.nil,h,hn=>by
   simp_all
 | _,_,.step (p:=p) (b:=b) (l:=l) h e,c,hn=>by
   rcases Ng.1 c with rfl|c
   ·omega
   ·by_cases hp:x=p
    ·subst hp
     exact⟨l,h,by simp⟩
    ·obtain⟨a,d,f⟩:=Pt.short h c hp
     exact⟨a,d,by simp;omega⟩
theorem vO.zbg{nx:Nat->List Nat} {a b:Nat} (c:vO nx a b) (d:vO nx b a) {l:List Nat} (e:Pt nx b l):a=b:=by
 have f:∀n (l:List Nat),l.length<=n->(Pt nx b l->a≠b->False)/\(Pt nx a l->a≠b->False):=by
  intro n
  induction n with
  | zero=>
    intro l e;have:l=[]:=by simp_all
    subst this
    exact⟨λh _=>(nomatch h),λh _=>(nomatch h)⟩
  | succ n m=>
    intro l e;refine⟨λh g=>?_,λh g=>?_⟩
    ·obtain⟨i,j,k⟩:=h.short (c l h) g
     grind
    ·obtain⟨i,j,k⟩:=h.short (d l h) g.symm
     grind
 by_cases h:a=b
 ·exact h
 ·exact((f l.length l (jK _)).1 e h).elim
theorem vO.trans{nx:Nat->List Nat} {a b c:Nat} (g:vO nx a b) (j:vO nx b c):vO nx a c:=λl i=>by
 have d:∀{y l},Pt nx y l->b∈l->a∈l:=by
  intro y l hp
  induction hp with
  | nil=>
    intro f;obtain rfl:b=0:=by simp_all
    exact g _ .nil
  | step h e k=>
    intro f;rcases Ng.1 f with rfl|f
    ·exact g _ (.step h e)
    simp_all
 exact d i (j l i)
structure Fit (u:U) (as:Nat->Int):Prop where
 root:∀v,v<u.eh.length->0<=as v->∃w:Nat,as v=(w:Int)/\w<u.eh.length/\as w=(w:Int)
 up:∀(v w b k:Nat),as v=(w:Int)->At u v b k->∃c j,At u w c j/\(c=b/\j<=k\/c≠b/\vO (next u) c b)
 zbU:∀(v w:Nat),as v=(w:Int)->xP u v->xP u w
 use:∀(v:Nat) (x:Vl),u.eh[v]? =some x->stays as v=true->∀w∈jk x,0<=as w
 st:∀(v:Nat) (x:Vl) (fs:List Fm),u.eh[v]? =some x->stays as v=true->leaves x.op=true->u.en[x.state]? =some fs->∀w∈gN fs,0<=as w
 cond:∀(b:Nat) (B:Bk),u.blocks[b]? =some B->B.fin=2->0<=as B.cond
 out:∀(b:Nat) (B:Bk) (fs:List Fm),u.blocks[b]? =some B->B.fin=3->u.en[B.state]? =some fs->∀w∈gN fs,0<=as w
class TK (P:Nat->Prop) (as:Nat->Int):Prop where
 h:∀v,stays as v=true->P v
instance (as:Nat->Int):TK (λ_=>True) as:=⟨λ_ _=>trivial⟩
instance (as:Nat->Int):TK (λv=>stays as v=true) as:=⟨λ_ h=>h⟩
section
variable{u:U}{P:Nat->Prop}{as:Nat->Int}[hP:TK P as] (g:Gd u P)(f:Fit u as)
include g
theorem jL{v:Nat}:v∈fL u as↔v<u.eh.length/\stays as v=true:=by
 unfold fL;rw[RT];constructor
 ·rintro⟨B,f,hv⟩;obtain⟨a,c⟩:=PU.1 hv;obtain⟨b,d⟩:=oD.1 f;obtain⟨k,e⟩:=oD.1 a;exact⟨g.mH v b k ⟨B,d,e⟩,c⟩
 ·rintro⟨a,c⟩;obtain⟨b,k,B,d,e⟩:=g.Iw v a (hP.h v c)
  grind
theorem Cf{b:Nat}{B:Bk}(a:u.blocks[b]? =some B):B.eh.Nodup:=HV g.Px a
omit hP in
theorem Ft:(fL u as).Nodup:=zK g.Px
omit g in
include f in
theorem YU {v:Nat} (hv:v<u.eh.length) (h0:0<=as v):∃w:Nat,xR as (u.eh.length+1) v=w/\as v=(w:Int)/\w<u.eh.length/\as w=(w:Int):=by
 obtain⟨w,h1,h2,h3⟩:=f.root v hv h0;refine⟨w,?_,h1,h2,h3⟩;unfold xR;split
 ·rename_i h;rw[h1];show xR as u.eh.length w=w;cases u.eh.length <;> simp_all[xR,if_neg]
 omega
include f
theorem Ug{v:Nat} (hv:v<u.eh.length) (h0:0<=as v):∃w:Nat,as v=(w:Int)/\w∈fL u as/\nm u as v=(fL u as).idxOf w:=by
 obtain⟨w,d,a,b,e⟩:=YU f hv h0;have c:w∈fL u as:=(jL g).2 ⟨b,by simp_all[stays]⟩;exact⟨w,a,c,by simp_all[nm,if_pos]⟩
omit f g
theorem O1{i n:Nat} {x:Vl} (hi:(fL u as)[i]? =some n) (a:u.eh[n]? =some x):(ji u as).eh[i]? =some (ij u as x):=by
 show((fL u as).map _)[i]? =_
 simp_all
theorem Ix(g:Gd u P) {i:Nat} {y:Vl} (h:(ji u as).eh[i]? =some y):∃n x,(fL u as)[i]? =some n/\u.eh[n]? =some x/\y=ij u as x/\stays as n=true:=by
 have h:((fL u as).map _)[i]? =some y:=h;rw[Cq]at h
 cases hn:(fL u as)[i]? with
 |none=>simp_all
 | some n=>
   obtain⟨a,b⟩:=(jL g).1 (Ik hn)
   simp_all
theorem Sk{b:Nat} {B:Bk} (a:u.blocks[b]? =some B):(ji u as).blocks[b]? =some (na u as B):=by
 show(u.blocks.map _)[b]? =_
 simp_all
theorem Fe{b:Nat} {a:Bk} (h:(ji u as).blocks[b]? =some a):∃B,u.blocks[b]? =some B/\a=na u as B:=by
 have h:(u.blocks.map _)[b]? =some a:=h
 grind
theorem Xi(b:Nat):next (ji u as) b=next u b:=by
 unfold next
 cases hb:u.blocks[b]? with
 | none=>
   grind[ji]
 |some B=>rw[Sk hb];rfl
theorem PH:next (ji u as)=next u:=funext Xi
theorem KX{h:Bk->Bk} (a:∀B,(h B).next=B.next) (b:Nat):∀(l:List Bk) (i:Nat),mi (l.map h) i b=mi l i b
 |[],_=>rfl
 | B::l,i=>by
   show((h B).next.filter (·= b)).map (λ_=>i)++mi (l.map h) (i+1) b=_;rw[a,KX a b l];rfl
theorem PK(b:Nat):ahead (ji u as) b=ahead u b:=KX (h:=na u as) (λ_=>rfl) b u.blocks 0
def pk(u:U) (as:Nat->Int) (b k:Nat):Nat:=match u.blocks[b]? with
 |some B=>((B.eh.take k).filter (stays as)).length
 |none=>0
theorem zbn{v b k:Nat} (h:At u v b k) (hs:stays as v=true):At (ji u as) ((fL u as).idxOf v) b (pk u as b k):=by
 obtain⟨B,a,hv⟩:=h;refine⟨_,Sk a,?_⟩;show((B.eh.filter (stays as)).map _)[pk u as b k]? =_
 grind[pk,OK]
theorem zar{v b j k:Nat} (h:At u v b j) (hs:stays as v=true) (a:j<k):pk u as b j<pk u as b k:=by
 obtain⟨B,c,hv⟩:=h
 simp_all[pk,Z9]
theorem IK(g:Gd u P) {i b k:Nat} (h:At (ji u as) i b k):∃v j,At u v b j/\stays as v=true/\i=(fL u as).idxOf v/\k=pk u as b j/\(fL u as)[i]? =some v:=by
 obtain⟨m,c,hi⟩:=h;obtain⟨B,e,rfl⟩:=Fe c;have hi:((B.eh.filter (stays as)).map _)[k]? =some i:=hi;rw[Cq]at hi
 cases hv:(B.eh.filter (stays as))[k]? with
 |none=>simp_all
 | some v=>
   rw[hv]at hi;obtain rfl:(fL u as).idxOf v=i:=Option.some.inj hi;obtain⟨l,d⟩:=PU.1 (Ik hv);obtain⟨j,f⟩:=oD.1 l;have a:At u v b j:=⟨B,e,f⟩
   refine⟨v,j,a,d,rfl,?_,F0 ((jL g).2 ⟨g.mH _ _ _ a,d⟩)⟩;unfold pk;rw[e];exact zS (by grind[Cf]) hv (OK f d)
theorem WT(x:Vl):jk (ij u as x)=(jk x).map (nm u as):=by
 unfold jk;show(if x.op=21 then(ij u as x).args else if x.op=20 then(ij u as x).a::(ij u as x).b::(ij u as x).args.take 1 else if two x.op=true then[(ij u as x).a,(ij u as x).b] else if pY x.op=true then[(ij u as x).a] else[])=_;unfold ij;simp only;by_cases c:x.op=21
 ·simp[c]
 ·rw[if_neg c,if_neg c];by_cases d:x.op=20
  ·simp_all[if_pos,two,List.map_take]
  grind
include g f
theorem Lq{w:Nat} (h:xP u w) (h0:0<=as w):xP (ji u as) (nm u as w):=by
 obtain⟨x,i,_⟩:=id h;obtain⟨r,a,b,c⟩:=Ug g f (by grind) h0;obtain⟨y,d,e⟩:=f.zbU w r a h;exact⟨ij u as y,by rw[c];exact O1 (F0 b) d,e⟩
theorem XU{w b k:Nat} (h:Kh u w b k) (s:b<u.blocks.length) (h0:0<=as w):Kh (ji u as) (nm u as w) b (pk u as b k):=by
 obtain⟨c,j,d,hc⟩:=h;obtain⟨r,t,v,z⟩:=Ug g f (g.mH _ _ _ d) h0;obtain⟨c',x,i,m⟩:=f.up w r c j t d;have hs:=((jL g).1 v).2;refine⟨c',pk u as c' x,by grind[zbn],?_⟩;rw[PH];rcases hc with⟨rfl,A⟩|⟨o,q⟩
 ·rcases m with⟨rfl,p⟩|⟨n,a⟩
  ·exact .inl ⟨rfl,zar i hs (by omega)⟩
  simp_all
 ·rcases m with⟨rfl,p⟩|⟨n,a⟩
  ·simp_all
  ·refine .inr ⟨λe=>?_,a.trans q⟩;subst e;obtain⟨l,y⟩:=g.reach c' s;exact o (q.zbg a y)
theorem JO{w b:Nat} (h:yj u w b) (h0:0<=as w):yj (ji u as) (nm u as w) b:=by
 obtain⟨c,j,a,i⟩:=h;obtain⟨r,l,n,o⟩:=Ug g f (g.mH _ _ _ a) h0;obtain⟨c',m,k,d⟩:=f.up w r c j l a;refine⟨c',pk u as c' m,by grind[zbn,jL],?_⟩;rw[PH];rcases d with⟨rfl,_⟩|⟨_,e⟩
 ·exact i
 ·exact e.trans i
omit f in
theorem Kd {s:Nat} (h:s∈JZ u as):s<u.en.length/\((∃(v b k:Nat) (x:Vl),At u v b k/\stays as v=true/\u.eh[v]? =some x/\leaves x.op=true/\x.state=s)\/∃(b:Nat) (B:Bk),u.blocks[b]? =some B/\B.fin=3/\B.state=s):=by
 unfold JZ at h;rcases Hi.1 h with h|h
 ·obtain⟨n,hn,hs⟩:=List.mem_filterMap.1 h;obtain⟨h1,hs1⟩:=(jL g).1 hn;have hx:=hO h1;rw[hx]at hs;simp only at hs;split at hs
  ·rename_i hl;cases hs;obtain⟨b,k,T5⟩:=g.Iw n h1 (hP.h n hs1);exact⟨g.leave n _ hx hl,by grind⟩
  ·cases hs
 ·obtain ⟨B,hB,hs⟩:=List.mem_filterMap.1 h;obtain⟨b,hb⟩:=oD.1 hB;split at hs
  ·rename_i h3;cases hs;refine⟨?_,by grind⟩;rcases g.fin b B hb with⟨h4,_⟩|⟨h4,_⟩|⟨_,_,h4⟩
   ·omega
   ·omega
   ·exact h4
  ·cases hs
omit g f in
theorem SD {s:Nat} {fs:List Fm} (h:s∈GL u as) (hs:u.en[s]? =some fs):(ji u as).en[(GL u as).idxOf s]? =some (fs.map (U8 u as)):=by
 show((GL u as).map _)[_]? =_
 grind
omit f in
theorem zbb {i:Nat} {gs:List Fm} (h:(ji u as).en[i]? =some gs):∃s fs,s∈GL u as/\u.en[s]? =some fs/\gs=fs.map (U8 u as):=by
 have h:((GL u as).map _)[i]? =some gs:=h;rw[Cq]at h
 cases hn:(GL u as)[i]? with
 |none=>simp_all
 | some s=>
   rw[hn]at h;have hm:s∈GL u as:=Ik hn;have hl:=(Kd g ((uz _ _).1 hm)).1
   grind
omit g f in
theorem MP (fs:List Fm):gN (fs.map (U8 u as))=(gN fs).map (nm u as):=by
 unfold gN;rw[List.flatMap_map,List.map_flatMap];congr 1;funext x;rw[Nh];rfl
omit f in
theorem zcf {v:Nat} {x:Vl} (hs:stays as v=true) (hx:u.eh[v]? =some x) (hl:leaves x.op=true):x.state∈GL u as:=by
 refine(uz _ _).2 (TX _ (List.mem_filterMap.2 ⟨v,by grind[jL,jR],?_⟩))
 simp_all
omit g f in
theorem zbE {b:Nat} {B:Bk} (hB:u.blocks[b]? =some B) (h3:B.fin=3):B.state∈GL u as:=
 (uz _ _).2 (wBR _ (List.mem_filterMap.2 ⟨B,Ik hB,by rw[if_pos h3]⟩))
omit f in
theorem OR {v b k:Nat} {x:Vl} (h:At u v b k) (hx:u.eh[v]? =some x) (hh:iU x.op=true):∀{w j:Nat} {y:Vl},At u w b j->u.eh[w]? =some y->j<=k->iU y.op=true:=by
 have key:∀(n v k:Nat) (x:Vl),At u v b k->u.eh[v]? =some x->iU x.op=true->∀{w j:Nat} {y:Vl},At u w b j->u.eh[w]? =some y->j+n=k->iU y.op=true:=by
  intro n
  induction n with
  | zero=>
    intro v k x h hx hh w j y hw hy e;obtain rfl:j=k:=by omega
    obtain⟨B,h1,h2⟩:=h;obtain⟨B',h3,h4⟩:=hw
    simp_all
  | succ n ih=>
    intro v k x h hx hh w j y hw hy e;obtain⟨k,rfl⟩:∃i,k=i+1:=⟨k-1,by omega⟩
    obtain⟨B,h1,h2⟩:=h;have hk:k<B.eh.length:=by have:=(jR.1 h2).1;omega
    have h3:At u (B.eh[k]) b k:=⟨B,h1,hO hk⟩
    have hz:=hO (g.mH _ _ _ h3);exact ih _ k _ h3 hz (g.NO _ _ _ _ _ _ ⟨B,h1,h2⟩ h3 hx hz hh) hw hy (by omega)
 exact λ{w j y} hw hy hj=>key (k-j) v k x h hx hh hw hy (by omega)
theorem Vi:Good (ji u as):=by
 have hL:(fL u as).length<=u.eh.length:=kj _ _ (Ft g) λv h=>((jL g).1 h).1;have hS:(GL u as).length<=u.en.length:=kj _ _ (OL _) λs hs=>(Kd g ((uz _ _).1 hs)).1;have hlen:(ji u as).eh.length=(fL u as).length:=by
  show((fL u as).map _).length=_;rw[GM]
 have J:(ji u as).blocks.length=u.blocks.length:=by
  show(u.blocks.map _).length=_;rw[GM]
 have mM:(ji u as).en.length=(GL u as).length:=by
  show((GL u as).map _).length=_;rw[GM]
 have V:∀s fs,s∈GL u as->u.en[s]? =some fs->∀w∈gN fs,0<=as w:=by
  intro s fs hs q w e;rcases(Kd g ((uz _ _).1 hs)).2 with⟨v,b,k,x,_,a,I,C,rfl⟩|⟨b,B,c,a,rfl⟩
  ·exact f.st v x fs I a C q w e
  ·exact f.out b B fs c a q w e
 have l:∀{i b k:Nat} {y:Vl},At (ji u as) i b k->(ji u as).eh[i]? =some y->∃v j x,At u v b j/\stays as v=true/\i=(fL u as).idxOf v/\k=pk u as b j/\u.eh[v]? =some x/\y=ij u as x:=by
  intro i b k y M m;obtain⟨v,j,c,a,I,C,r⟩:=IK g M;obtain⟨n,x,L,S,W,_⟩:=Ix g m;rw[r]at L;cases L;exact by grind
 have R:∀{v b k:Nat},At u v b k->b<u.blocks.length:=λ⟨B,h,_⟩=>(jR.1 h).1
 refine
  { nv:=by rw[hlen];have:=g.nv;omega
    OV:=by rw[J];exact g.OV
    nb:=by rw[J];exact g.nb
    ns:=by rw[mM];have:=g.ns;omega
    st:=?_,Iw:=?_,Px:=?_,mH:=?_,NO:=?_,par:=?_,KO:=?_,op:=?_,use:=?_,leave:=?_,putAt:=?_,param:=?_,fin:=?_,nx:=?_,fh:=?_,Kb:=?_,MS:=?_,reach:=?_,NN:=?_,Oa:=?_,N5:=?_,OB:=?_,N9:=?_}
 ·intro s gs hs;obtain⟨s0,fs,c,a,rfl⟩:=zbb g hs;obtain⟨I,C,r⟩:=g.st s0 fs a;refine⟨by simpa using I,by simpa using C,λf' X=>?_⟩;obtain⟨N,Y,rfl⟩:=LN.1 X;obtain⟨Z,h7,h8,h9⟩:=r N Y;have ag:∀w,w∈N.locals\/w∈N.stack->0<=as w:=λw e=>V s0 fs c a w (by
   grind[gN])
  refine⟨by show(N.locals.map _).length<=40;simpa using Z,by show(N.stack.map _).length<=60;simpa using h7,λv hv=>?_,λv hv=>?_⟩
  ·obtain⟨w,e,rfl⟩:=LN.1 (show v∈N.locals.map (nm u as) from hv)
   grind[Lq]
  ·obtain⟨w,e,rfl⟩:=LN.1 (show v∈N.stack.map (nm u as) from hv)
   grind[Lq]
 ·intro i hi _;rw[hlen]at hi;have hn:=hO hi;obtain⟨c,a⟩:=(jL g).1 (Ik hn);obtain⟨b,k,M⟩:=g.Iw _ c (hP.h _ a);refine⟨b,pk u as b k,?_⟩;have:=zbn M a
  grind[zb1,Ft]
 ·intro i b k b' k' h h';obtain⟨v,j,c,a,I,C,r⟩:=IK g h;obtain⟨v',j',L,S,W,g4,T⟩:=IK g h';rw[r]at T;cases T;obtain⟨rfl,rfl⟩:=g.Px _ _ _ _ _ c L;omega
 ·grind[IK,jR]
 ·intro i i' b k y y' h h' m aa hh;obtain⟨v,j,x,c,a,_,C,r,rfl⟩:=l h m;obtain⟨v',j',x',L,S,_,g4,T,rfl⟩:=l h' aa;show iU x'.op=true;refine OR g c r hh L T ?_
  grind[zar]
 ·intro i b k y h m F;obtain⟨v,j,x,c,_,_,_,r,rfl⟩:=l h m;exact g.par v b j x c r F
 ·intro i b k y Q h m F d;obtain⟨v,j,x,c,_,_,_,r,rfl⟩:=l h m;obtain⟨B,A,rfl⟩:=Fe d;obtain⟨Z,h7⟩:=g.KO v b j x B c r F A;refine⟨Z,?_⟩;have D:x.op=21:=F;show(if x.op=21\/x.op=20 then x.args.map (nm u as) else x.args).length=B.fh.length
  simp_all
 ·intro i y m;obtain⟨n,x,_,a,rfl,_⟩:=Ix g m;exact g.op n x a
 ·intro i y m w e;obtain⟨n,x,_,a,rfl,C⟩:=Ix g m;rw[WT]at e;obtain⟨w0,o,rfl⟩:=LN.1 e;exact Lq g f (g.use n x a w0 o) (f.use n x a C w0 o)
 ·intro i y m hl;obtain⟨n,x,_,a,rfl,C⟩:=Ix g m;have E:leaves x.op=true:=hl;rw[mM];show(if leaves x.op=true then(GL u as).idxOf x.state else x.state)<_;rw[if_pos E]
  grind[wBn,zcf]
 ·intro i y m F;obtain⟨n,x,_,a,rfl,C⟩:=Ix g m;have D:x.op=20:=F;show(if x.op=21\/x.op=20 then x.args.map (nm u as) else x.args).length=1;rw[if_pos (.inr D),GM];exact g.putAt n x a D
 ·intro i y m F;obtain⟨n,x,c,a,rfl,C⟩:=Ix g m;obtain⟨L,S,W⟩:=g.param n x a F;refine⟨L,S,λw z hz ab ac=>?_⟩;obtain⟨n',x',ae,G,rfl,_⟩:=Ix g hz;obtain rfl:=W n' x' G ab ac;exact zS (Ft g) ae c
 ·intro b Q d;obtain⟨B,A,rfl⟩:=Fe d;rcases g.fin b B A with⟨c,a⟩|⟨c,a,I⟩|⟨c,a,I⟩
  ·exact .inl ⟨c,a⟩
  ·refine .inr (.inl ⟨c,a,?_⟩);show xP _ (if B.fin=2 then nm u as B.cond else B.cond);rw[if_pos c];exact Lq g f I (f.cond b B A c)
  ·refine .inr (.inr ⟨c,a,?_⟩);rw[mM];show(if B.fin=3 then(GL u as).idxOf B.state else B.state)<_;rw[if_pos c];exact wBn (zbE A c)
 ·intro b t U;rw[Xi]at U;rw[J];exact g.nx b t U
 ·intro b Q d;obtain⟨B,A,rfl⟩:=Fe d;rw[PK];exact g.fh b B A
 ·rw[PK];exact g.Kb
 ·intro b Q d a t U;obtain⟨B,A,rfl⟩:=Fe d;rw[PK];exact g.MS b B A a t U
 ·intro b hb;rw[J]at hb;rw[PH];exact g.reach b hb
 ·intro i b k y h m F w e;obtain⟨v,j,x,c,a,_,rfl,r,rfl⟩:=l h m;rw[WT]at e;obtain⟨w0,o,rfl⟩:=LN.1 e;exact XU g f (g.NN v b j x c r F w0 o) (R c) (f.use v x r a w0 o)
 ·intro i b k y Q h m F d j w p e hp;obtain⟨v,j0,x,c,a,_,rfl,r,rfl⟩:=l h m;obtain⟨B,A,rfl⟩:=Fe d;have D:x.op=21:=F;have e:(if x.op=21\/x.op=20 then x.args.map (nm u as) else x.args)[j]? =some w:=e;rw[if_pos (.inl D),Cq]at e
  cases hq:x.args[j]? with
  |none=>simp_all
  | some w0=>
    rw[hq]at e;obtain rfl:nm u as w0=w:=Option.some.inj e;exact JO g f (g.Oa v b j0 x B c r D A j w0 p hq hp) (f.use v x r a w0 (by
      unfold jk
      grind))
 ·intro i b k y gs h m hl H w e;obtain⟨v,j,x,c,a,_,rfl,r,rfl⟩:=l h m;have E:leaves x.op=true:=hl;have O:(ij u as x).state=(GL u as).idxOf x.state:=by
   show(if leaves x.op=true then _ else _)=_;rw[if_pos E]
  have P:=g.leave v x r E;have q:=hO P;rw[O,SD (by grind) q]at H;cases H;rw[MP]at e;obtain⟨w0,o,rfl⟩:=LN.1 e;exact XU g f (g.N5 v b j x _ c r E q w0 o) (R c) (f.st v x _ r a E q w0 o)
 ·intro b Q d a;obtain⟨B,A,rfl⟩:=Fe d;have G:B.fin=2:=a;show yj _ (if B.fin=2 then nm u as B.cond else B.cond) b;rw[if_pos G];exact JO g f (g.OB b B A G) (f.cond b B A G)
 ·intro b Q gs d I H w e;obtain⟨B,A,rfl⟩:=Fe d;have K:B.fin=3:=I;have O:(na u as B).state=(GL u as).idxOf B.state:=by
   show(if B.fin=3 then _ else _)=_;rw[if_pos K]
  have P:B.state<u.en.length:=by
   rcases g.fin b B A with⟨C,_⟩|⟨C,_⟩|⟨_,_,C⟩
   ·omega
   ·omega
   ·exact C
  have q:=hO P;rw[O,SD (zbE A K) q]at H;cases H;rw[MP]at e;obtain⟨w0,o,rfl⟩:=LN.1 e;exact JO g f (g.N9 b B _ A K q w0 o) (f.out b B _ A K q w0 o)
end
open Dm
section
variable (u:U)(kp:Nat->Bool)
def xo(b:Nat):Nat:=if kp b=true then((List.range b).filter kp).length else 0
def xO(i:Nat)(ps:List Nat):List Nat:=(List.range ps.length).filter λj=>kp (ps.getD j 0)&&(next u (ps.getD j 0)).contains i
def yx(i:Nat)(ps:List Nat):List Nat:=(xO u kp i ps).map λj=>xo kp (ps.getD j 0)
def wL(i:Nat)(ps args:List Nat):List Nat:=(xO u kp i ps).map λj=>args.getD j 0
def PG:Bk:=⟨[],0,0,[],[],0⟩
def mS:List Nat:=(List.range u.blocks.length).filter kp
def ID(b:Nat):Bk:={u.blocks.getD b PG with next:=(u.blocks.getD b PG).next.map (xo kp),fh:=yx u kp b (u.blocks.getD b PG).fh}
structure Cut (u':U):Prop where
 func:u'.func=u.func
 pc:u'.pc=u.pc
 en:u'.en=u.en
 blocks:u'.blocks=(mS u kp).map (ID u kp)
 len:u'.eh.length=u.eh.length
 KO:∀(v b k:Nat) (x:Vl) (B:Bk),At u v b k->u.eh[v]? =some x->x.op=21->kp b=true->u.blocks[b]? =some B->u'.eh[v]? =some {x with args:=wL u kp b B.fh x.args}
 same:∀(v:Nat) (x:Vl),u.eh[v]? =some x->¬(x.op=21/\∃b k,At u v b k/\kp b=true)->u'.eh[v]? =some x
structure Ox (az a:List Int):Prop where
 len:a.length=az.length
 gone:∀(v b k:Nat),At u v b k->kp b=false->v<az.length->a[v]? =some (-1)
 same:∀(v:Nat),(¬∃b k,At u v b k/\kp b=false)->a[v]? =az[v]?
end
section
variable{u u':U}{kp:Nat->Bool}
theorem filter_all{p:Nat->Bool}{l:List Nat}(h:∀x∈l,p x=true):l.filter p=l:=List.filter_eq_self.2 h
theorem Qf(a:∀b,b<u.blocks.length->kp b=true) {b:Nat} (c:b<u.blocks.length):xo kp b=b:=by
 unfold xo;rw[if_pos (a b c),filter_all (by grind),YR]
theorem OC(g:Good u) (d:∀b,b<u.blocks.length->kp b=true) {b:Nat} {B:Bk} (e:u.blocks[b]? =some B):xO u kp b B.fh=List.range B.fh.length:=by
 unfold xO;refine filter_all λj a=>?_;have a:=YQ.1 a;rw[G2,hO a];have hp:B.fh[j]∈ahead u b:=by rw[<-g.fh b B e];exact zd a
 obtain⟨q,f,h,i,c⟩:=uG.1 hp;rw[zA]at c;rw[Option.getD_some,c,d q (by grind),wB7,List.contains_iff_mem]
 grind[next]
theorem Q3(l:List Nat) (d:Nat):(List.range l.length).map (λj=>l.getD j d)=l:=by
 refine wBk λj=>?_
 grind
theorem So(g:Good u) (c:∀b,b<u.blocks.length->kp b=true) {b:Nat} {B:Bk} (d:u.blocks[b]? =some B):ID u kp b=B:=by
 have e:u.blocks.getD b PG=B:=by rw[G2,d];rfl
 unfold ID;rw[e];have h:B.next.map (xo kp)=B.next:=by
  have:∀t∈B.next,xo kp t=t:=λt i=>Qf c (g.nx b t (by grind[next]));rw[Wx this,List.map_id''];exact λ_=>rfl
 have k:yx u kp b B.fh=B.fh:=by
  unfold yx;rw[OC g c d];have:∀j∈List.range B.fh.length,xo kp (B.fh.getD j 0)=B.fh.getD j 0:=λj a=>by
   have a:=YQ.1 a;rw[G2,hO a,Option.getD_some];have hp:B.fh[j]∈ahead u b:=by rw[<-g.fh b B d];exact zd a
   obtain⟨q,l,h,_,f⟩:=uG.1 hp;rw[zA]at f;rw[f];exact Qf c (by grind)
  rw[Wx this];exact Q3 _ _
 simp_all
theorem Cut.eq(g:Good u) (l:∀b,b<u.blocks.length->kp b=true) (c:Cut u kp u'):u' = u:=by
 have n:u'.blocks=u.blocks:=by
  rw[c.blocks,mS,filter_all (by simp_all)];refine wBk λb=>?_;by_cases h:b<u.blocks.length
  ·grind[wBo,So,hO]
  ·simp_all
 have hv:u'.eh=u.eh:=by
  refine wBk λv=>?_;by_cases h:v<u.eh.length
  ·have d:=hO h;generalize u.eh[v]=x at*;rw[d];by_cases hp:x.op=21/\∃b k,At u v b k/\kp b=true
   ·obtain ⟨f,b,k,a,i⟩:=hp;obtain⟨B,j,m⟩:=id a;rw[c.KO v b k x B a d f i j];have e:wL u kp b B.fh x.args=x.args:=by
     unfold wL;rw[OC g l j,<-(g.KO v b k x B a d f j).2];exact Q3 _ _
    rw[e]
   ·exact c.same v x d hp
  ·rw[NT (by rw[c.len];omega),NT (by omega)]
 have f:=c.func;have o:=c.pc;have p:=c.en;cases u;cases u'
 simp_all
theorem Ox.eq{az a:List Int} (c:Ox u kp az a) (d:∀b,b<u.blocks.length->kp b=true):a=az:=by
 refine wBk λv=>c.same v ?_;rintro⟨b,k,⟨B,e,_⟩,h⟩
 grind
end
open Dm
theorem MR{l L:List Nat} (h:l <+: L) {v:Nat} (hv:v∈l):L.idxOf v=l.idxOf v:=by
 obtain⟨r,rfl⟩:=h
 grind
theorem He(l r:List Nat):lY l <+: lY (l++r):=by
 induction r using Mc with
 |h0=>simp_all
 | hs r s a=>
   grind[Ii,yB,List.prefix_append]
section
variable{u:U}{as:Nat->Int}
def ko(u:U) (as:Nat->Int) (i j:Nat):List Nat:=(u.blocks.take i).flatMap (λB=>B.eh.filter (stays as))++(match u.blocks[i]? with
 |some B=>(B.eh.take j).filter (stays as)
 |none=>[])
theorem KD:ko u as 0 0=[]:=by
 grind[ko]
theorem RS{i:Nat} {B:Bk} (a:u.blocks[i]? =some B):ko u as i B.eh.length=ko u as (i+1) 0:=by
 unfold ko;rw[a];obtain⟨b,rfl⟩:=jR.1 a
 grind[NG,List.flatMap_singleton,JF,stays]
theorem SC:ko u as u.blocks.length 0=fL u as:=by
 simp_all[ko,fL,JF,NT,jK,GP]
theorem Kw{i j v:Nat} {B:Bk} (a:u.blocks[i]? =some B) (hv:B.eh[j]? =some v):ko u as i (j+1)=if stays as v=true then ko u as i j++[v] else ko u as i j:=by
 unfold ko;rw[a];obtain⟨b,rfl⟩:=jR.1 hv
 grind[NG,Ii]
theorem Hn{i j:Nat} {B:Bk} (a:u.blocks[i]? =some B):ko u as i j <+: fL u as:=by
 unfold ko fL;rw[a];obtain⟨b,rfl⟩:=jR.1 a;have e:u.blocks=u.blocks.take i++u.blocks[i]::u.blocks.drop (i+1):=by
  conv=>lhs;rw[<-Ym i u.blocks]
  rw[Ys b]
 grind[stays,Ym,Ii,List.prefix_append]
theorem zby(b:Zn u) {i j v:Nat} {B:Bk} (a:u.blocks[i]? =some B) (hv:B.eh[j]? =some v) (hs:stays as v=true):(fL u as).idxOf v=(ko u as i j).length/\v ∉ ko u as i j:=by
 have hp:=Hn (as:=as) (j:=j+1) a;rw[Kw a hv,if_pos hs]at hp;have c:=zK (as:=as) b;obtain⟨r,d⟩:=hp
 grind
theorem Gl(a:∀v b k,At u v b k->v<u.eh.length) {v:Nat} (hv:v∈fL u as):v<u.eh.length:=by
 unfold fL at hv;obtain⟨B,c,hv⟩:=RT.1 hv;obtain⟨b,d⟩:=oD.1 c;obtain⟨k,e⟩:=oD.1 (PU.1 hv).1;exact a v b k ⟨B,d,e⟩
theorem QB{n:Nat} (h:∀v,v<n->as v<(n:Int)):∀(k v:Nat),v<n->xR as k v<n
 |0,_,hv=>hv
 | k + 1,v,hv=>by
   unfold xR;split
   ·rename_i a
    exact QB h k _ (by simp_all)
   ·exact hv
def sW(u:U) (l:List Nat):List Nat:=l.filterMap λn=>match u.eh[n]? with
 |some x=>if leaves x.op=true then some x.state else none
 |none=>none
def BA(l:List Bk):List Nat:=l.filterMap λB=>if B.fin=3 then some B.state else none
theorem Om:JZ u as=sW u (fL u as)++BA u.blocks:=rfl
end
open Dm
def Xx(u:U) (v:Nat):Prop:=(∃x,u.eh[v]? =some x/\(x.op=19\/x.op=20\/x.op=22\/x.op=23))\/ (∃(i:Nat) (x:Vl) (fs:List Fm),u.eh[i]? =some x/\leaves x.op=true/\u.en[x.state]? =some fs/\v∈gN fs)\/ (∃(b:Nat) (B:Bk),u.blocks[b]? =some B/\B.fin=2/\v=B.cond)\/ (∃(b:Nat) (B:Bk) (fs:List Fm),u.blocks[b]? =some B/\B.fin=3/\u.en[B.state]? =some fs/\v∈gN fs)
inductive Live (u:U):Nat->Prop
 |root {v:Nat} (h:Xx u v):Live u v
 |use {v w:Nat} {x:Vl} (h:Live u v) (a:u.eh[v]? =some x) (b:w∈jk x):Live u w
theorem Uu{u:U} (g:Good u) {v:Nat} (h:Xx u v):v<u.eh.length:=by
 have gl:∀{w},xP u w->w<u.eh.length:=λ⟨_,h,_⟩=>by grind
 have fl:∀{s fs},u.en[s]? =some fs->∀w∈gN fs,w<u.eh.length:=λ{s fs} hs w a=>by
  unfold gN at a;obtain⟨f,d,a⟩:=RT.1 a;obtain⟨_,_,i,e⟩:=(g.st s fs hs).2.2 f d
  grind
 rcases h with⟨x,h,_⟩|⟨_,_,_,_,_,h,hv⟩|⟨b,B,h,e,rfl⟩|⟨_,_,_,_,_,h,hv⟩
 ·grind
 ·grind
 ·rcases g.fin b B h with⟨c,_⟩|⟨_,_,c⟩|⟨c,_⟩
  ·omega
  ·simp_all
  ·omega
 grind
theorem Y2{u:U} (g:Good u) {v:Nat} (h:Live u v):v<u.eh.length:=by
 cases h with
 |root h=>simp_all[Uu]
 |use h a b=>obtain⟨_,h,_⟩:=g.use _ _ a _ b;grind
def Pe(u:U)(as:Nat->Int):Prop:=∀v,v<u.eh.length->(as v=(v:Int)/\Live u v)\/(as v = -1/\¬Live u v)
theorem Pe.fit{u:U} (g:Good u) {as:Nat->Int} (d:Pe u as) (j:∀v,u.eh.length<=v->as v = -1):Fit u as:=by
 have live:∀{w},Live u w->0<=as w:=λ{w} h=>by
  rcases d w (Y2 g h)with⟨e,_⟩|⟨_,q⟩
  ·omega
  simp_all
 have self:∀{v w:Nat},as v=(w:Int)->v=w/\v<u.eh.length:=λ{v w} e=>by
  by_cases hv:v<u.eh.length
  ·rcases d v hv with⟨l,_⟩|⟨l,_⟩
   ·omega
   ·omega
  simp_all
 have st:∀{v x},u.eh[v]? =some x->stays as v=true->Live u v:=λ{v x} c hs=>by
  have hv:=(jR.1 c).1;unfold stays at hs;rw[C9]at hs;rcases d v hv with⟨_,h⟩|⟨e,_⟩
  ·exact h
  ·omega
 refine ⟨λv hv h0=>?_,λv w b k e m=>?_,λv w e h=>?_,λv x c hs w f=>live (.use (st c hs) c f),λv x fs c _ n a w f=>live (.root (.inr (.inl ⟨v,x,fs,c,n,a,f⟩))),
  λb B i o=>live (.root (.inr (.inr (.inl ⟨b,B,i,o,rfl⟩)))),λb B fs i p a w f=>live (.root (.inr (.inr (.inr ⟨b,B,fs,i,p,a,f⟩))))⟩
 ·rcases d v hv with⟨e,_⟩|⟨e,_⟩
  ·grind
  ·omega
 ·grind
 grind
def AL(l:List Vl):Prop:=∀x∈l,x.args.length<=2
section
variable{ops:List Int}
theorem OG:∀(i:Nat) (s:Ds) (l:List Nat),(some_ ops i s l).2.eh=s.eh
 |0,_,_=>rfl
 | i+1,s,l=>by
   unfold some_;rw[OG i];rfl
theorem Bo(s:Ds):(fJ ops s).2.eh=s.eh:=by
 show(some_ ops (num ops s 4).1 (num ops s 4).2 []).2.eh=s.eh;rw[OG];rfl
theorem JY{s:Ds} {x:Vl} (h:AL s.eh) (c:x.args.length<=2):AL (put s x).eh:=λy a=>by
 have a:y∈s.eh++[x]:=a;rcases Hi.1 a with b|b
 ·exact h y b
 simp_all
theorem zO{s:Ds}{x:Vl}(h:AL s.eh)(a:x.args.length<=2):AL (jc s x).eh:=JY h a
theorem Yj{s:Ds} {k a b:Nat} (h:AL s.eh):AL (th ops s k a b).eh:=by
 have hs:AL (fJ ops s).2.eh:=by rw[Bo];exact h
 unfold th;by_cases c:k<12
 ·simp_all[if_pos,zO,vl]
 rw[if_neg c];by_cases c:k=12
 ·simp_all[if_pos,zO,num,vl]
 rw[if_neg c];by_cases c:k=13
 ·simp_all[if_pos,zO,num,vl]
 rw[if_neg c];by_cases c:k=14
 ·simp_all[if_pos,zO,vl]
 rw[if_neg c];by_cases c:k=15
 ·simp_all[if_pos,JY,num,vl]
 rw[if_neg c];by_cases c:k=16
 ·simp_all[if_pos,JY,fK,vl]
 rw[if_neg c];by_cases c:k=17
 ·simp_all[if_pos,JY,vl]
 rw[if_neg c];by_cases c:k=18
 ·simp_all[if_pos,JY,vl]
 simp_all[if_neg,zO,num,vl]
theorem RY{s:Ds}(h:AL s.eh):AL (um ops s).eh:=Yj h
theorem UL:∀(i:Nat) (s:Ds),AL s.eh->AL (rows ops i s).eh
 |0,_,h=>h
 | i+1,s,h=>by
   unfold rows;split
   ·exact UL i _ (RY h)
   ·exact h
theorem FQ{s:Ds}(h:AL s.eh):AL (row ops s).eh:=UL _ _ h
theorem MT{s:Ds} {v:Nat} {l:List Nat} (h:AL s.eh) (a:l.length<=2):AL (setArgs s v l).eh:=λy b=>by
 obtain⟨i,hi⟩:=oD.1 b;have hi:(s.eh.modify v λx=>{x with args:=l})[i]? =some y:=hi;rw[List.getElem?_modify]at hi
 cases hx:s.eh[i]? with
 |none=>simp_all
 | some x=>
   rw[hx]at hi;have hi:some (if v=i then{x with args:=l} else x)=some y:=hi;have:=Option.some.inj hi;subst this;split
   ·exact a
   ·exact h x (Ik hx)
theorem Yz{t:Dt} (h:AL t.s.eh):AL (fork ops t).s.eh:=by
 unfold fork;refine FQ (zO ?_ (by simp[vl]));refine FQ (s:=(end_ _ _ _ _ _ _).s) ?_;exact FQ (s:=(end_ _ _ _ _ _ _).s) h
theorem Zh{t:Dt} (h:AL t.s.eh):AL (yp ops t).s.eh:=by
 unfold yp;refine FQ (s:=(end_ _ _ _ _ _ _).s) ?_;show AL (fJ ops _).2.eh;rw[Bo];exact FQ (s:=(end_ _ _ _ _ _ _).s) h
theorem zad{t:Dt} (h:AL t.s.eh):AL (loop ops t).s.eh:=by
 unfold loop;refine FQ (s:=(end_ _ _ _ _ _ _).s) ?_;refine MT (s:=_) ?_ (by simp);have c:∀(a:Ds) (p:Nat) (l b:List Nat),l.length<=2->b.length<=2->AL a.eh->AL (if(num ops (setArgs a p l) 3).1=0 then setArgs (num ops (setArgs a p l) 3).2 p b else(num ops (setArgs a p l) 3).2).eh:=by grind[MT,num,setArgs]
 grind[FQ,end_,zO,JY,vl,Bo,fK]
theorem N4:∀(l:List Int) (t:Dt),AL t.s.eh->AL (lW ops l t).s.eh
 |[],_,h=>h
 | k ::l,t,h=>by
   unfold lW;split
   ·refine N4 l _ ?_
    grind[uE,Yz,zad,Zh]
   ·exact h
theorem Od:∀(n i:Nat) (s:Ds),AL s.eh->AL (params n i s).eh
 |0,_,_,h=>h
 |n+1,i,s,h=>Od n (i+1) _ (by grind[zO,vl])
theorem ZG(ops a:List Int) (n:Int):AL (Hg ops a n).eh:=by
 unfold Hg;show AL (fJ ops _).2.eh;rw[Bo];refine N4 _ _ ?_;exact FQ (zO (Od _ _ _ (λ_ h=>nomatch h)) (by simp[vl]))
end
open Dm
def SM(nx:Nat->List Nat)(Dp:Int)(b:Nat):Prop:=∃l,Pt nx b l/\∀x∈l,(x:Int)≠Dp
theorem VD{nx:Nat->List Nat} {a b:Nat}:¬SM nx (a:Int) b↔vO nx a b:=by
 constructor
 ·intro h l c;refine Classical.byContradiction λf=>h ⟨l,c,λx d e=>f ?_⟩
  grind
 ·rintro h ⟨l,c,d⟩;exact d a (h l c) rfl
structure Wo (n:Nat) (nx:Nat->List Nat) (Dp:Int) (c:Option (Nat×Nat)) (seen:List Bool) (todo:List Nat):Prop where
 len:seen.length=n
 zero:seen[0]? =some true
 sound:∀v:Nat,seen[v]? =some true->SM nx Dp v
 work:∀v∈todo,seen[v]? =some true
 closed:∀v:Nat,seen[v]? =some true->v∈todo\/∀(k t:Nat),(nx v)[k]? =some t->(t:Int)≠Dp->seen[t]? =some true\/∃j,c=some (v,j)/\j<=k
 less:todo.length+seen.count false<=n
theorem count_set{l:List Bool}:∀{v:Nat},l[v]? =some false->(l.set v true).count false+1=l.count false:=by
 grind
section
variable{n:Nat}{nx:Nat->List Nat}{Dp:Int}{seen:List Bool}{todo:List Nat}
theorem Wo.start(b:0<n) (h0:Dp≠0):Wo n nx Dp none ((List.replicate n false).set 0 true) [0]:=by
 have hs:∀v:Nat,((List.replicate n false).set 0 true)[v]? =some true->v=0:=λv hv=>by
  grind
 have a:((List.replicate n false).set 0 true)[0]? =some true:=by simp_all
 refine⟨by simp,a,λv hv=>?_,λv hv=>?_,by simp_all,?_⟩
 ·rw[hs v hv];exact⟨[0],.nil,by grind⟩
 ·simp_all
 grind
theorem Wo.pop{b:Nat} (w:Wo n nx Dp none seen (b::todo)):Wo n nx Dp (some (b,0)) seen todo/\SM nx Dp b:=by
 have a:=w.less;rw[KB]at a;refine⟨⟨w.len,w.zero,w.sound,λv hv=>w.work v (by simp[hv]),λv hv=>?_,by omega⟩,w.sound b (w.work b (by simp))⟩;rcases w.closed v hv with h|h
 ·grind
 grind
theorem Wo.skip{b j t:Nat} (w:Wo n nx Dp (some (b,j)) seen todo) (c:(nx b)[j]? =some t) (h:(t:Int)=Dp\/seen[t]? =some true):Wo n nx Dp (some (b,j+1)) seen todo:=by
 refine⟨w.len,w.zero,w.sound,w.work,λv hv=>?_,w.less⟩;rcases w.closed v hv with a|a
 ·simp_all
 grind
theorem Wo.push{b j t:Nat} (w:Wo n nx Dp (some (b,j)) seen todo) (d:(nx b)[j]? =some t) (e:SM nx Dp b) (k:(t:Int)≠Dp) (c:seen[t]? =some false):Wo n nx Dp (some (b,j+1)) (seen.set t true) (todo++[t]):=by
 have f:=(jR.1 c).1;have a:(seen.set t true)[t]? =some true:=by simp_all
 have up:∀v:Nat,seen[v]? =some true->(seen.set t true)[v]? =some true:=by grind
 have down:∀v:Nat,(seen.set t true)[v]? =some true->v=t\/seen[v]? =some true:=by grind
 refine⟨by rw[Nd];exact w.len,up 0 w.zero,λv hv=>?_,λv hv=>?_,λv hv=>?_,?_⟩
 ·rcases down v hv with rfl|h
  ·obtain⟨l,g,m⟩:=e;exact⟨v::l,.step g (Ik d),by simp_all⟩
  ·exact w.sound v h
 ·rcases Hi.1 hv with h|h
  ·exact up v (w.work v h)
  simp_all
 ·rcases down v hv with rfl|h
  ·simp_all
  ·rcases w.closed v h with i|i
   ·simp_all
   grind
 ·have:=count_set c;have:=w.less
  grind
theorem Wo.next{b:Nat} (w:Wo n nx Dp (some (b,(nx b).length)) seen todo):Wo n nx Dp none seen todo:=by
 refine⟨w.len,w.zero,w.sound,w.work,λv hv=>(w.closed v hv).imp id λh k t a c=>?_,w.less⟩
 grind
theorem Wo.all(w:Wo n nx Dp none seen []):∀{b:Nat} {l:List Nat},Pt nx b l->(∀x∈l,(x:Int)≠Dp)->seen[b]? =some true
 |_,_,.nil,_=>w.zero
 | _,_,.step (p:=p) h e,hx=>by
   have c:=w.all h (by simp_all);obtain⟨k,d⟩:=oD.1 e;rcases w.closed p c with a|a
   ·cases a
   grind
theorem Wo.iff(w:Wo n nx Dp none seen []) (b:Nat):seen[b]? =some true↔SM nx Dp b:=
 ⟨w.sound b,λ⟨_,a,c⟩=>w.all a c⟩
theorem UY{b:Nat} (h:Dp=0):¬SM nx Dp b:=by
 rintro⟨l,a,c⟩;have:0∈l:=by
  clear c
  induction a with
  |nil=>simp_all
  |step _ _ d=>simp_all
 grind
end
open Dm
def QV(op:Nat):Bool:=2<=op&&op<=16
def zc3(as:Nat->Int) (l:List Nat) (i:Nat):Int:=match l[i]? with
 |some w=>as w
 |none=>-1
def keyOf(as:Nat->Int)(x:Vl):Nat×Int×Int×Int:=(x.op,zc3 as (jk x) 0,zc3 as (jk x) 1,if x.op=2 then x.n else 0)
def zaL(u:U)(w v:Nat):Prop:=∃c j b k,At u w c j/\At u v b k/\(c=b/\j<k\/c≠b/\vO (next u) c b)
structure zcX (u:U) (as:Nat->Int):Prop where
 stay:∀(v:Nat) (x:Vl),u.eh[v]? =some x->QV x.op=false->as v=(v:Int)
 num:∀(v:Nat) (x:Vl),u.eh[v]? =some x->QV x.op=true->
  (as v=(v:Int)/\∀(w:Nat) (y:Vl),u.eh[w]? =some y->QV y.op=true->as w=(w:Int)->zaL u w v->keyOf as y≠keyOf as x)\/
  ∃(w:Nat) (y:Vl),as v=(w:Int)/\u.eh[w]? =some y/\QV y.op=true/\as w=(w:Int)/\zaL u w v/\keyOf as y=keyOf as x
section
variable{u:U}(g:Good u){as:Nat->Int}(d:zcX u as)
include d
include g
end
open Dm
def Cc(n:Int):Int:=n % 18446744073709551616
def EM(n:Int):Int:=if n<9223372036854775808 then n else n-18446744073709551616
def JB(b:Bool):Int:=if b=true then 1 else 0
def MH(op:Nat) (a b:Int):Int:=
 if op=3 then Cc (a+b) else if op=4 then Cc (a-b) else if op=5 then Cc (a*b)
 else if op=6 then(if EM b=0 then 0 else if EM b = -1 then Cc (-a) else Cc ((EM a).tdiv (EM b)))
 else if op=7 then(if EM b=0\/EM b = -1 then 0 else Cc ((EM a).tmod (EM b)))
 else if op=8 then Cc (-a) else if op=9 then JB (decide (a=0)) else if op=10 then JB (decide (a=b)) else if op=11 then JB (decide (a≠b))
 else if op=12 then JB (decide (EM a<EM b)) else if op=13 then JB (decide (EM a<=EM b)) else if op=14 then JB (decide (a<b)) else 0
def ug(h:List Int)(a:Int):Int:=h.getD a.toNat 0
def Mt(h:List Int)(a v:Int):List Int:=if a=0 then h else h.set a.toNat v
def Fq(x:Vl) (val:Nat->Int) (h:List Int):Int:=
 if x.op=2 then Cc x.n else if x.op=15 then ug h (val x.a) / 4294967296 else if x.op=16 then ug h (val x.a) % 4294967296
 else if x.op=17 then ug h (Cc (val x.a+Cc x.n)) else if x.op=18 then ug h (Cc (Cc (val x.a+1)+val x.b))
 else if x.op=8\/x.op=9 then MH x.op (val x.a) 0 else MH x.op (val x.a) (val x.b)
structure Rs where
 val:List Int
 heap:List Int
 steps:Nat
 polls:Nat
def Rs.of(s:Rs)(v:Nat):Int:=s.val.getD v 0
structure Fw where
 func:Int
 pc:Int
 locals:List Int
 stack:List Int
inductive Ex where
 |zW
 |left (steps:Nat) (fr:List Fw) (heap:List Int)
 |stuck
def yd(u:U)(s:Rs)(st:Nat):Ex:= .left s.steps (((u.en[st]?).getD []).map λf=>⟨f.func,f.pc,f.locals.map s.of,f.stack.map s.of⟩) s.heap
def yE(u:U) (gW:Int) (n:Nat) (x:Vl) (s:Rs):Ex ⊕ Rs:=
 if x.op=19 then .inr {s with heap:=Mt s.heap (Cc (s.of x.a+Cc x.n)) (s.of x.b),steps:=s.steps+1}
 else if x.op=20 then .inr {s with heap:=Mt s.heap (Cc (Cc (s.of x.a+1)+s.of x.b)) (s.of (x.args.getD 0 0)),steps:=s.steps+1}
 else if x.op=22 then(if s.of x.a=0 then .inl (yd u {s with steps:=s.steps+1} x.state) else .inr {s with steps:=s.steps+1})
 else if x.op=23 then(if 0<=gW/\(s.polls:Int)=gW then .inl (yd u {s with steps:=s.steps+1} x.state) else .inr {s with steps:=s.steps+1,polls:=s.polls+1})
 else .inr {s with val:=s.val.set n (Fq x s.of s.heap),steps:=s.steps+1}
def p9(u:U) (gW:Int) (fuel:Nat):List Nat->Rs->Ex ⊕ Rs
 |[],s=> .inr s
 | n ::l,s=>if fuel<=s.steps then .inl .zW else match u.eh[n]? with
   |none=> .inl .stuck
   | some x=>match yE u gW n x s with
     | .inl e=> .inl e
     | .inr s=>p9 u gW fuel l s
def gU(u:U) (v:Nat):Bool:=match u.eh[v]? with
 |some x=>iU x.op
 |none=>false
def Mo(u:U) (locals:List Int) (pg:Option Nat) (B:Bk) (val:Nat->Int) (v:Nat):Int:=match u.eh[v]? with
 | some x=>if x.op=1 then locals.getD x.n.toNat 0 else match pg with
   | some p=>match B.fh.findIdx? (·== p)with
     |some j=>val (x.args.getD j 0)
     |none=>0
   |none=>0
 |none=>0
def yT(val:List Int)(l:List (Nat×Int)):List Int:=l.foldl (λa p=>a.set p.1 p.2) val
def oY(u:U) (locals:List Int) (pg:Option Nat) (B:Bk) (s:Rs):Rs:=
 let hs:=B.eh.takeWhile (gU u)
 {s with val:=yT s.val (hs.map λv=>(v,Mo u locals pg B s.of v)),steps:=s.steps+hs.length}
def En(B:Bk)(s:Rs):Option Nat:=if B.fin=1 then B.next[0]? else if B.fin=2 then(if s.of B.cond=0 then B.next[1]? else B.next[0]?) else none
def runM(u:U) (locals:List Int) (gW:Int) (fuel:Nat):Nat->Option Nat->Nat->Rs->Ex
 |0,_,_,_=> .stuck
 | EN+1,pg,b,s=>match u.blocks[b]? with
   |none=> .stuck
   | some B=>match p9 u gW fuel (B.eh.dropWhile (gU u)) (oY u locals pg B s)with
     | .inl e=>e
     | .inr s=>if fuel<=s.steps then .zW else if B.fin=3 then yd u {s with steps:=s.steps+1} B.state else match En B s with
       |none=> .stuck
       |some t=>runM u locals gW fuel EN (some b) t {s with steps:=s.steps+1}
def xX(u:U)(heap:List Int):Rs:=⟨List.replicate u.eh.length 0,heap,0,0⟩
def Ex.As:Ex->Ex->Prop
 | .left n fr h,.left n' fr' h'=>n'<=n/\fr' = fr/\h' = h
 | .left _ _ _,_=>False
 |_,_=>True
section
variable{u:U}{as:Nat->Int}
structure Alike (u:U) (as:Nat->Int) (s s':Rs):Prop where
 len:s.val.length=u.eh.length
 DG:s'.val.length=(fL u as).length
 val:∀v∈fL u as,s'.of ((fL u as).idxOf v)=s.of v
 heap:s'.heap=s.heap
 steps:s'.steps<=s.steps
 polls:s'.polls=s.polls
structure Way (u:U) (as:Nat->Int) (locals:List Int) (gW:Int) (heap:List Int) (I:Nat->Nat->Rs->Prop):Prop where
 start:∀B:Bk,u.blocks[0]? =some B->I 0 (B.eh.takeWhile (gU u)).length (oY u locals none B (xX u heap))
 NO:∀(b t:Nat) (B T:Bk) (s:Rs),u.blocks[b]? =some B->u.blocks[t]? =some T->t∈B.next->I b B.eh.length s->s.val.length=u.eh.length->I t (T.eh.takeWhile (gU u)).length (oY u locals (some b) T {s with steps:=s.steps+1})
 one:∀(b k v:Nat) (x:Vl) (s a:Rs),At u v b k->u.eh[v]? =some x->gU u v=false->I b k s->s.val.length=u.eh.length->yE u gW v x s = .inr a->I b (k+1) a
 use:∀(b k w:Nat) (r:Nat) (s:Rs),I b k s->s.val.length=u.eh.length->Kh u w b k->as w=(r:Int)->s.of r=s.of w
theorem IL{l:List Int} {i j:Nat} {x:Int} (hi:i<l.length):(l.set i x).getD j 0=if j=i then x else l.getD j 0:=by
 grind
theorem DA(l:List (Nat×Int)):∀val:List Int,(yT val l).length=val.length:=by
 induction l with
 |nil=>exact λ_=>rfl
 | cons p l a=>
   grind[yT,Nd]
theorem Iq{f:Nat->Int} {j:Nat}:∀(l:List Nat) (val:List Int),(∀v∈l,v<val.length)->(yT val (l.map λv=>(v,f v))).getD j 0=if j∈l then f j else val.getD j 0
 |[],_,_=>by rfl
 | v::l,val,h=>by
   show(yT (val.set v (f v)) (l.map λv=>(v,f v))).getD j 0=_;rw[Iq l _ (by simp_all),IL (by simp_all)]
   grind
end
theorem Ic{u:U} {w b:Nat} {B:Bk} (d:u.blocks[b]? =some B) (h:yj u w b):Kh u w b B.eh.length:=by
 obtain⟨c,j,a,f⟩:=h;refine⟨c,j,a,?_⟩;by_cases e:c=b
 ·subst e;obtain⟨g,i,k⟩:=a
  grind
 simp_all
section
variable{u:U}{P:Nat->Prop}{as:Nat->Int}[hP:TK P as] (g:Gd u P)(f:Fit u as){I:Nat->Nat->Rs->Prop}{locals:List Int}{gW:Int}{heap:List Int}(W:Way u as locals gW heap I)
include g f W
theorem PQ{b k w:Nat} {s s':Rs} (e:I b k s) (d:Alike u as s s') (hs:Kh u w b k) (h0:0<=as w):s'.of (nm u as w)=s.of w:=by
 obtain⟨c,j,a,_⟩:=id hs;obtain⟨r,h,i,l⟩:=Ug g f (g.mH _ _ _ a) h0;rw[l,d.val r i];exact W.use b k w r s e d.len hs h
theorem M1{b k st:Nat} {s s':Rs} {fs:List Fm} (h:I b k s) (d:Alike u as s s') (f:st∈GL u as) (c:u.en[st]? =some fs) (hs:∀w∈gN fs,Kh u w b k/\0<=as w) :
  ∃fr,yd u {s with steps:=s.steps+1} st = .left (s.steps+1) fr s.heap/\yd (ji u as) {s' with steps:=s'.steps+1} ((GL u as).idxOf st) = .left (s'.steps+1) fr s.heap:=by
 refine ⟨_,rfl,?_⟩;unfold yd;rw[SD f c,c,d.heap];simp only[Option.getD_some,List.map_map];congr 1;refine Wx λa g=>?_;have e:∀l:List Nat,(∀w∈l,w∈gN fs)->(l.map (nm u as)).map s'.of=l.map s.of:=λl i=>by
  grind[List.map_map,Wx,PQ]
 show Fw.mk a.func a.pc ((a.locals.map (nm u as)).map s'.of) ((a.stack.map (nm u as)).map s'.of)=_;rw[e a.locals (by grind[gN,TX]),e a.stack (by grind[gN,wBR])];rfl
variable (Ek:∀(v:Nat)(x:Vl),u.eh[v]? =some x->stays as v=false->x.op≠19/\x.op≠20/\(x.op=22->∀b k s,At u v b k->I b k s->s.val.length=u.eh.length->s.of x.a≠0)/\x.op≠23)
include Ek
omit g f W Ek in
theorem Pz {x:Vl}:(two x.op=true->x.op≠21->x.a∈jk x/\x.b∈jk x)/\(pY x.op=true->x.op≠21->x.a∈jk x):=by
 constructor
 ·intro h h1;unfold jk
  grind
 ·intro h h1;unfold jk
  grind
omit Ek in
theorem zbB {b k v:Nat} {x:Vl} {s s':Rs} (T5:At u v b k) (hx:u.eh[v]? =some x) (hh:gU u v=false) (hst:stays as v=true) (hI:I b k s) (ha:Alike u as s s') :
  (∀n fr hp,yE u gW v x s = .inl (.left n fr hp)->∃n',n'<=n/\yE (ji u as) gW ((fL u as).idxOf v) (ij u as x) s' = .inl (.left n' fr hp))/\
  (∀s1,yE u gW v x s = .inr s1->∃s1',yE (ji u as) gW ((fL u as).idxOf v) (ij u as x) s' = .inr s1'/\Alike u as s1 s1'):=by
 have h21:x.op≠21:=by grind[gU,iU]
 have hvl:=(jR.1 hx).1;have hm:v∈fL u as:=(jL g).2 ⟨hvl,hst⟩;have eu:∀w∈jk x,s'.of (nm u as w)=s.of w:=λw hw=>PQ g f W hI ha (g.NN v b k x T5 hx h21 w hw) (f.use v x hx hst w hw);have ea:two x.op=true\/pY x.op=true->s'.of (ij u as x).a=s.of x.a:=λh=>by
  have:(ij u as x).a=nm u as x.a:=by
   show(if _ then nm u as x.a else x.a)=_;rcases h with h|h
   ·simp_all
   ·grind
  grind[Pz]
 have eb:two x.op=true->s'.of (ij u as x).b=s.of x.b:=by simp_all[ij,nm,if_pos,Pz]
 have hop:=g.op v x hx;have stp:=ha.steps;have pol:=ha.polls;have hp:=ha.heap;have goH:∀(q q':List Int),q' = q->Alike u as {s with heap:=q,steps:=s.steps+1} {s' with heap:=q',steps:=s'.steps+1}:=λq q' e=>⟨ha.len,ha.DG,ha.val,e,by simp only;omega,pol⟩
 have lv:leaves x.op=true->∃fs,u.en[x.state]? =some fs/\(ij u as x).state=(GL u as).idxOf x.state/\x.state∈GL u as/\∀w∈gN fs,Kh u w b k/\0<=as w:=λhl=>by
  have hs0:=g.leave v x hx hl;have hfs:=hO hs0;exact⟨_,hfs,if_pos hl,zcf g hst hx hl,λw hw=>⟨g.N5 v b k x _ T5 hx hl hfs w hw,f.st v x _ hx hst hl hfs w hw⟩⟩
 unfold yE;rw[show(ij u as x).op=x.op from rfl,show(ij u as x).n=x.n from rfl];by_cases h19:x.op=19
 ·have e2:two x.op=true:=by rw[h19];rfl
  simp_all
 rw[if_neg h19,if_neg h19];by_cases h20:x.op=20
 ·have e2:two x.op=true:=by rw[h20];rfl
  rw [if_pos h20,if_pos h20];refine⟨λ_ _ _ h=>(nomatch h),λs1 h=>?_⟩;cases h;refine⟨_,rfl,goH _ _ ?_⟩;have hl:=g.putAt v x hx h20;have eC:s'.of ((ij u as x).args.getD 0 0)=s.of (x.args.getD 0 0):=by
   have:(ij u as x).args=x.args.map (nm u as):=if_pos (.inr h20);rw[this]
   match hq:x.args,hl with
   | [w],_=>
     simp_all[jk,if_neg,if_pos]
  simp_all
 rw[if_neg h20,if_neg h20];by_cases h22:x.op=22
 ·have e1:pY x.op=true:=by rw[h22];rfl
  rw[if_pos h22,if_pos h22,ea (.inr e1)];obtain⟨fs,l1,l2,l3,l4⟩:=lv (by rw[h22];rfl);by_cases hz:s.of x.a=0
  ·rw[if_pos hz,if_pos hz];refine⟨λn fr q h=>?_,λ_ h=>(nomatch h)⟩;obtain⟨fr',g1,g2⟩:=M1 g f W hI ha l3 l1 l4
   grind
  simp_all
 rw[if_neg h22,if_neg h22];by_cases h23:x.op=23
 ·rw [if_pos h23,if_pos h23,pol];obtain⟨fs,l1,l2,l3,l4⟩:=lv (by rw[h23];rfl);by_cases hz:0<=gW/\(s.polls:Int)=gW
  ·rw[if_pos hz,if_pos hz];refine⟨λn fr q h=>?_,λ_ h=>(nomatch h)⟩;obtain⟨fr',g1,g2⟩:=M1 g f W hI ha l3 l1 l4
   grind
  ·rw[if_neg hz,if_neg hz];refine⟨λ_ _ _ h=>(nomatch h),λs1 h=>?_⟩;cases h;exact⟨_,rfl,ha.len,ha.DG,ha.val,hp,by simp only;omega,by simp only⟩
 rw [if_neg h23,if_neg h23];refine⟨λ_ _ _ h=>(nomatch h),λs1 h=>?_⟩;cases h;have eV:Fq (ij u as x) s'.of s'.heap=Fq x s.of s.heap:=by
  have h1:x.op≠1:=by grind[gU,iU]
  unfold Fq;rw[show(ij u as x).op=x.op from rfl,show(ij u as x).n=x.n from rfl,hp];have ht:x.op≠2->two x.op=true\/pY x.op=true:=λh2=>by
   unfold two pY;simp only[Nc,vR,BP,C9];omega
  by_cases h2:x.op=2
  ·rw[if_pos h2,if_pos h2]
  rw [if_neg h2,if_neg h2,ea (ht h2)];have htw:x.op≠15->x.op≠16->x.op≠17->¬(x.op=8\/x.op=9)->two x.op=true:=λa1 a2 a3 a4=>by
   unfold two;simp only[Nc,vR,BP,C9];omega
  by_cases h15:x.op=15
  ·rw[if_pos h15,if_pos h15]
  rw[if_neg h15,if_neg h15];by_cases h16:x.op=16
  ·rw[if_pos h16,if_pos h16]
  rw[if_neg h16,if_neg h16];by_cases h17:x.op=17
  ·rw[if_pos h17,if_pos h17]
  rw[if_neg h17,if_neg h17];by_cases h18:x.op=18
  ·simp_all
  rw[if_neg h18,if_neg h18];by_cases h89:x.op=8\/x.op=9
  ·rw[if_pos h89,if_pos h89]
  ·simp_all
 rw[eV];refine⟨_,rfl,by simp only[Nd];exact ha.len,by simp only[Nd];exact ha.DG,λw hw=>?_,hp,by simp only;omega,pol⟩;show(s'.val.set _ _).getD _ 0=(s.val.set _ _).getD _ 0;rw[IL (by rw[ha.DG];exact wBn hm),IL (by rw[ha.len];exact hvl)];by_cases e:w=v
 ·subst e;rw[if_pos rfl,if_pos rfl]
 ·rw[if_neg e,if_neg λh=>e (UC hw hm h)];exact ha.val w hw
theorem UD{fuel b:Nat} {B:Bk} (C:u.blocks[b]? =some B):∀(l:List Nat) (k:Nat) (s s':Rs),B.eh.drop k=l->k+l.length=B.eh.length->(∀v∈l,gU u v=false)->I b k s->Alike u as s s'->
  (∀n fr hp,p9 u gW fuel l s = .inl (.left n fr hp)->∃r,r<=n/\p9 (ji u as) gW fuel ((l.filter (stays as)).map (fL u as).idxOf) s' = .inl (.left r fr hp))/\
  (∀c,p9 u gW fuel l s = .inr c->∃a,p9 (ji u as) gW fuel ((l.filter (stays as)).map (fL u as).idxOf) s' = .inr a/\Alike u as c a/\I b B.eh.length c)
 | [],k,s,s',hl,o,_,hI,ha=>by
   refine⟨λn fr hp h=>(nomatch h),λc h=>?_⟩;cases h;have o:k=B.eh.length:=by simpa using o
   subst o
   exact⟨s',rfl,ha,hI⟩
 | v ::l,k,s,s',hl,o,hh,hI,ha=>by
   have p:k<B.eh.length:=by rw[KB]at o;omega
   rw[Ys p]at hl;obtain⟨hv,t⟩:=List.cons.inj hl;have d:At u v b k:=⟨B,C,by rw[<-hv];exact hO p⟩
   have q:=g.mH _ _ _ d;have j:=hO q;generalize u.eh[v]=x at j;have i:=hh v (by simp);have y:=λ(c a:Rs) (z:I b (k+1) c) (A:Alike u as c a)=>UD C (fuel:=fuel) l (k+1) c a t (by grind) (by simp_all) z A;show(∀n fr hp,(if fuel<=s.steps then _ else _)=_->_)/\(∀c,(if fuel<=s.steps then _ else _)=_->_);by_cases hf:fuel<=s.steps
   ·simp_all
   rw[if_neg hf,j];simp only;have D:=ha.steps
   cases hst:stays as v with
   | true=>
     have E:v∈fL u as:=by grind[jL]
     have e:((v::l).filter (stays as)).map (fL u as).idxOf=(fL u as).idxOf v::(l.filter (stays as)).map (fL u as).idxOf:=by rw[wBp,if_pos hst];rfl
     rw[e];show(∀n fr hp,_->∃r,r<=n/\(if fuel<=s'.steps then _ else _)=_)/\(∀c,_->∃a,(if fuel<=s'.steps then _ else _)=_/\_);rw[if_neg (by omega),O1 (F0 E) j];simp only;obtain⟨L,F⟩:=zbB g f W d j i hst hI ha
     cases hq:yE u gW v x s with
     | inl e=>
       grind
     | inr c=>
       obtain⟨a,G,H⟩:=F _ hq;rw[G]
       exact y c a (W.one b k v x s c d j i hI ha.len hq) H
   | false=>
     have e:((v::l).filter (stays as)).map (fL u as).idxOf=(l.filter (stays as)).map (fL u as).idxOf:=by rw[wBp,if_neg (by simp_all)]
     rw[e];obtain⟨d1,d2,d3,J⟩:=Ek v x j hst;by_cases m:x.op=22
     ·have hq:yE u gW v x s = .inr {s with steps:=s.steps+1}:=by
        unfold yE;rw[if_neg d1,if_neg d2,if_pos m,if_neg (d3 m b k s d hI ha.len)]
      rw[hq];exact y _ s' (W.one b k v x s _ d j i hI ha.len hq) ⟨ha.len,ha.DG,ha.val,ha.heap,by simp only;omega,ha.polls⟩
     have hq:yE u gW v x s = .inr {s with val:=s.val.set v (Fq x s.of s.heap),steps:=s.steps+1}:=by
       unfold yE;rw[if_neg d1,if_neg d2,if_neg m,if_neg J]
     rw[hq];refine y _ s' (W.one b k v x s _ d j i hI ha.len hq) ⟨by simp only[Nd];exact ha.len,ha.DG,λw K=>?_,ha.heap,by grind,ha.polls⟩;rw[ha.val w K];show _=(s.val.set _ _).getD _ 0;rw[IL (by rw[ha.len];exact q),if_neg (by grind[jL])];rfl
omit f W Ek in
theorem IE {b:Nat} {B:Bk} (hB:u.blocks[b]? =some B):∀v∈B.eh.dropWhile (gU u),gU u v=false:=by
 have e:=wA9 (p:=gU u) (l:=B.eh)
 cases hd:B.eh.dropWhile (gU u)with
 |nil=>simp_all
 | cons w r=>
   have hw:gU u w=false:=by
     have:=List.head?_dropWhile_not (gU u) B.eh;rw[hd]at this;simpa using this
   intro v hv
   cases hq:gU u v with
   |false=>rfl
   | true=>
     exfalso;rw[hd]at e;generalize B.eh.takeWhile (gU u)=hs at e;obtain⟨n,hn⟩:=oD.1 hv;have a1:At u v b (hs.length+n):=⟨B,hB,by rw[<-e,SQ (by omega)];rw[wBe];exact hn⟩
     have a2:At u w b hs.length:=⟨B,hB,by rw[<-e,SQ (by omega),Nat.sub_self];rfl⟩
     have hx:=hO (g.mH _ _ _ a1);have hy:=hO (g.mH _ _ _ a2)
     grind[gU,OR]
omit g f W Ek in
theorem Sb {p:Nat->Bool} {x:Nat}:∀{l:List Nat},x∈l.takeWhile p->p x=true
 |[],h=>by cases h
 | a ::l,h=>by
   rw[List.takeWhile_cons]at h;split at h
   ·rename_i ha
    rcases Ng.1 h with rfl|h
    ·exact ha
    ·exact Sb h
   ·cases h
omit g f W Ek in
theorem Hr {p:Nat->Bool}:∀{a b:List Nat},(∀x∈a,p x=true)->(∀x∈b,p x=false)->(a++b).takeWhile p=a/\(a++b).dropWhile p=b
 | [],b,_,hb=>by
   cases b <;> simp_all
 | x::a,b,ha,hb=>by
   obtain⟨h1,h2⟩:=Hr (a:=a) (b:=b) (by simp_all) hb
   simp_all
omit f W Ek in
theorem WC {v:Nat} (hv:v∈fL u as):gU (ji u as) ((fL u as).idxOf v)=gU u v:=by
 have hx:=hO ((jL g).1 hv).1;unfold gU;rw[O1 (F0 hv) hx,hx];rfl
omit f W Ek in
theorem Uh {b:Nat} {B:Bk} (hB:u.blocks[b]? =some B) :
  (na u as B).eh.takeWhile (gU (ji u as))=((B.eh.takeWhile (gU u)).filter (stays as)).map (fL u as).idxOf/\(na u as B).eh.dropWhile (gU (ji u as))=((B.eh.dropWhile (gU u)).filter (stays as)).map (fL u as).idxOf:=by
 have e:(na u as B).eh=((B.eh.takeWhile (gU u)).filter (stays as)).map (fL u as).idxOf++((B.eh.dropWhile (gU u)).filter (stays as)).map (fL u as).idxOf:=by
  rw[<-Nh,<-wBu,wA9];rfl
 have Nz:∀v∈B.eh,stays as v=true->v∈fL u as:=λv hv hs=>by
  obtain⟨k,hk⟩:=oD.1 hv;exact(jL g).2 ⟨g.mH v b k ⟨B,hB,hk⟩,hs⟩
 rw[e];refine Hr (λx hx=>?_) λx hx=>?_
 ·obtain⟨v,hv,rfl⟩:=LN.1 hx
  grind[WC,List.takeWhile_subset,Sb]
 ·obtain⟨v,hv,rfl⟩:=LN.1 hx
  grind[WC,List.dropWhile_subset,IE]
omit f W Ek in
theorem Wl {b:Nat} {B:Bk} {pg:Option Nat} {s s':Rs} (hB:u.blocks[b]? =some B) (ha:Alike u as s s')
  (zem:∀(v k:Nat) (x:Vl) (j p a:Nat),At u v b k->stays as v=true->u.eh[v]? =some x->x.op=21->pg=some p->B.fh[j]? =some p->x.args[j]? =some a->s'.of (nm u as a)=s.of a) :
  Alike u as (oY u locals pg B s) (oY (ji u as) locals pg (na u as B) s'):=by
 obtain ⟨e1,_⟩:=Uh (as:=as) g hB;have VL:∀v∈B.eh.takeWhile (gU u),∃k,At u v b k:=λv hv=>by
  obtain⟨k,hk⟩:=oD.1 (List.takeWhile_subset _ hv);exact⟨k,B,hB,hk⟩
 have hw:∀v∈B.eh.takeWhile (gU u),stays as v=true->Mo (ji u as) locals pg (na u as B) s'.of ((fL u as).idxOf v)=Mo u locals pg B s.of v:=by
  intro v hv hs;obtain⟨k,T5⟩:=VL v hv;have hvl:=g.mH _ _ _ T5;have hx:=hO hvl;generalize u.eh[v]=x at hx;have hm:v∈fL u as:=by grind[jL]
  unfold Mo;rw[O1 (F0 hm) hx,hx];show(if x.op=1 then _ else _)=(if x.op=1 then _ else _)
  by_cases h1:x.op=1
  ·rw[if_pos h1,if_pos h1];rfl
  rw [if_neg h1,if_neg h1];have h21:x.op=21:=by
   have:=Sb hv;unfold gU at this;rw[hx]at this;unfold iU at this;rw[Nc,C9,C9]at this;omega
  cases hf:pg with
  |none=>rfl
  | some p=>
    show (match B.fh.findIdx? (·== p)with
      |some j=>s'.of ((ij u as x).args.getD j 0)
      |none=>0)=(match B.fh.findIdx? (·== p)with
      |some j=>s.of (x.args.getD j 0)
      |none=>0)
    cases hj:B.fh.findIdx? (·== p)with
    |none=>rfl
    | some j=>
      simp only;obtain⟨hjl,hjp,_⟩:=List.findIdx?_eq_some_iff_getElem.1 hj;rw[C9]at hjp;have hpl:=(g.KO v b k x B T5 hx h21 hB).2;have hja:x.args[j]? =some x.args[j]:=by simp_all
      have e:(ij u as x).args=x.args.map (nm u as):=if_pos (.inl h21)
      grind
 unfold oY;simp only;rw[e1];have hv0:∀v∈B.eh.takeWhile (gU u),v<s.val.length:=λv hv=>by
  obtain⟨k,T5⟩:=VL v hv;rw[ha.len];exact g.mH _ _ _ T5
 refine⟨by simp only[DA];exact ha.len,by simp only[DA];exact ha.DG,λv hv=>?_,ha.heap,?_,ha.polls⟩
 ·show (yT s'.val _).getD _ 0=(yT s.val _).getD _ 0;rw[Iq _ _ hv0,Iq _ _ λw hw=>by
   obtain⟨v',hv',rfl⟩:=LN.1 hw;obtain⟨h1,h2⟩:=PU.1 hv';obtain⟨k,T5⟩:=VL v' h1;rw[ha.DG];exact wBn ((jL g).2 ⟨g.mH _ _ _ T5,h2⟩)]
  by_cases hm:v∈B.eh.takeWhile (gU u)
  ·rw[if_pos hm,if_pos (LN.2 ⟨v,by grind[jL],rfl⟩)]
   grind[jL]
  ·rw [if_neg hm,if_neg λh=>by
    obtain⟨v',hv',e⟩:=LN.1 h;obtain⟨h1,h2⟩:=PU.1 hv';obtain⟨k,T5⟩:=VL v' h1;obtain rfl:=UC ((jL g).2 ⟨g.mH _ _ _ T5,h2⟩) hv e
    simp_all]
   exact ha.val v hv
 ·simp only[GM];have:=wBT (stays as) (B.eh.takeWhile (gU u));have:=ha.steps;omega
theorem XZ{fuel:Nat}:∀(EN:Nat) (pg:Option Nat) (b:Nat) (B:Bk) (s s':Rs),u.blocks[b]? =some B->Alike u as s s'->
  ((pg=none/\b=0/\s=xX u heap)\/∃(p:Nat) (P:Bk) (o i:Rs),pg=some p/\u.blocks[p]? =some P/\b∈P.next/\I p P.eh.length o/\Alike u as o i/\s = {o with steps:=o.steps+1}/\s' = {i with steps:=i.steps+1})->
  (runM u locals gW fuel EN pg b s).As (runM (ji u as) locals gW fuel EN pg b s')
 |0,_,_,_,_,_,_,_,_=>trivial
 | EN+1,pg,b,B,s,s',hB,ha,he=>by
   have R:=(jR.1 hB).1;have E:Alike u as (oY u locals pg B s) (oY (ji u as) locals pg (na u as B) s'):=by
     refine Wl g hB ha λv k x j p a F hs N G A hp hq=>?_;rcases he with⟨z,_⟩|⟨O,P,o,i,z,h,C,q,H,rfl,rfl⟩
     ·simp_all
     ·rw[z]at A
      cases A;exact PQ g f W (s:=o) (s':=i) q H (Ic h (g.Oa v b k x B F N G hB j a p hq hp)) (f.use v x N hs a (by
        unfold jk
        grind))
   have J:I b (B.eh.takeWhile (gU u)).length (oY u locals pg B s):=by
     rcases he with⟨rfl,rfl,rfl⟩|⟨O,P,o,i,rfl,h,C,q,H,rfl,rfl⟩
     ·exact W.start B hB
     ·exact W.NO O b P B o h hB C q H.len
   obtain ⟨_,S⟩:=Uh (as:=as) g hB;have hlen:(B.eh.takeWhile (gU u)).length+(B.eh.dropWhile (gU u)).length=B.eh.length:=by
     rw[<-Ec,wA9]
   have K:B.eh.drop (B.eh.takeWhile (gU u)).length=B.eh.dropWhile (gU u):=by
     have e:=wA9 (p:=gU u) (l:=B.eh);generalize B.eh.takeWhile (gU u)=a at e⊢;generalize B.eh.dropWhile (gU u)=d at e⊢;rw[<-e];exact List.drop_left' rfl
   obtain⟨r1,T⟩:=UD g f W Ek (fuel:=fuel) hB _ _ _ _ K hlen (IE g hB) J E;unfold runM;rw[hB,Sk hB];simp only;rw[S]
   cases hq:p9 u gW fuel (B.eh.dropWhile (gU u)) (oY u locals pg B s)with
   | inl e=>
     simp only
     cases e with
     |zW=>exact trivial
     |stuck=>exact trivial
     | left n fr hp=>
       obtain⟨Z,z,h⟩:=r1 n fr hp hq;rw[h]
       exact⟨z,rfl,rfl⟩
   | inr D=>
     obtain⟨r,z,h,C⟩:=T D hq;rw[z];simp only;have U:=h.steps;by_cases A:fuel<=D.steps
     ·rw[if_pos A];exact trivial
     rw[if_neg A,if_neg (show ¬fuel<=r.steps by omega)];show Ex.As (if B.fin=3 then _ else _) (if B.fin=3 then _ else _);by_cases c:B.fin=3
     ·rw[if_pos c,if_pos c]
      have L:B.state<u.en.length:=by
        rcases g.fin b B hB with⟨q,_⟩|⟨q,_⟩|⟨_,_,q⟩
        ·omega
        ·omega
        ·exact q
      have y:=hO L;obtain⟨fr,V,X⟩:=M1 g f W C h (zbE hB c) y λw Q=>⟨Ic hB (g.N9 b B _ hB c y w Q),f.out b B _ hB c y w Q⟩
      rw[V,show(na u as B).state=(GL u as).idxOf B.state from if_pos c,X];exact⟨by omega,rfl,rfl⟩
     rw[if_neg c,if_neg c];have Y:En (na u as B) r=En B D:=by
       unfold En;show(if B.fin=1 then B.next[0]? else if B.fin=2 then(if r.of (if B.fin=2 then nm u as B.cond else B.cond)=0 then B.next[1]? else B.next[0]?) else none)=_;by_cases m:B.fin=2
       ·rw[if_pos m,if_pos m,if_pos m,PQ g f W C h (Ic hB (g.OB b B hB m)) (f.cond b B hB m)]
       ·simp_all
     rw[Y]
     cases hn:En B D with
     |none=>exact trivial
     | some t=>
       simp only;have ht:t∈B.next:=by
         unfold En at hn
         repeat' split at hn
         all_goals grind
       have M:=g.nx b t (by grind[next]);exact XZ EN (some b) t _ _ _ (hO M) ⟨h.len,h.DG,h.val,h.heap,by simp_all,h.polls⟩ (by grind)
theorem YM{fuel:Nat} (EN:Nat):(runM u locals gW fuel EN none 0 (xX u heap)).As (runM (ji u as) locals gW fuel EN none 0 (xX (ji u as) heap)):=by
 have a:(ji u as).eh.length=(fL u as).length:=by
  show((fL u as).map _).length=_;rw[GM]
 refine XZ g f W Ek EN none 0 _ _ _ (hO (show 0<u.blocks.length from g.OV)) ⟨by simp[xX],by grind[xX],λv _=>?_,rfl,jK _,rfl⟩ (by simp_all);have e:∀n m,(List.replicate n (0:Int)).getD m 0=0:=by grind
 exact(e _ _).trans (e _ _).symm
end
open Dm
theorem Vv{u:U} (g:Good u) {as:Nat->Int} (d:Pe u as) (a:∀v,u.eh.length<=v->as v = -1) (locals:List Int) (gW:Int) (fuel EN:Nat) (heap:List Int) :
  (runM u locals gW fuel EN none 0 (xX u heap)).As (runM (ji u as) locals gW fuel EN none 0 (xX (ji u as) heap)):=by
 refine YM g (d.fit g a) (I:=λ_ _ _=>True) ⟨λ_ _=>trivial,λ_ _ _ _ _ _ _ _ _ _=>trivial,λ_ _ _ _ _ _ _ _ _ _ _ _=>trivial,λb k w r s _ _ hs e=>?_⟩ (λv x i hs=>?_) EN
 ·obtain ⟨c,j,f,_⟩:=hs;rcases d w (g.mH _ _ _ f)with⟨l,_⟩|⟨l,_⟩
  ·obtain rfl:r=w:=by omega
   rfl
  ·omega
 ·have hv:=(jR.1 i).1;have m:¬Live u v:=λh=>by
   rcases d v hv with⟨e,_⟩|⟨_,h'⟩
   ·unfold stays at hs;rw[e,beq_self_eq_true]at hs;cases hs
   ·exact h' h
  have h:=λe=>m (.root (.inl ⟨x,i,e⟩));refine⟨λe=>h (by omega),λe=>h (by omega),λe=>(h (by omega)).elim,λe=>h (by omega)⟩
structure zeF (u:U) (as:Nat->Int) (hp:List Int) (b k:Nat) (s:Rs):Prop where
 heap:s.heap=hp
 eqn:∀(v:Nat) (x:Vl),u.eh[v]? =some x->QV x.op=true->Kh u v b k->s.of v=Fq x s.of hp
 same:∀v w:Nat,as v=(w:Int)->Kh u v b k->s.of w=s.of v
