/- Parts. -/
import Derived.Test.YtflkbfabonggkaaGreatDoorM13
set_option maxHeartbeats 4000000
namespace Go.Proofs.YtflkbfabonggkaaGreatDoor.Un
open Dm
def lL(l:List Nat):List Nat:=l.foldl (λa s=>if s∈a then a else a++[s]) []
theorem yS(l:List Nat) (s:Nat):lL (l++[s])=if s∈lL l then lL l else lL l++[s]:=by
 grind[lL]
theorem NK{P:List Nat->Prop} (h0:P []) (hs:∀l s,P l->P (l++[s])) (l:List Nat):P l:=by
 have:∀r:List Nat,P r.reverse:=λr=>by
  induction r <;> grind
 rw[<-List.reverse_reverse l]
 grind
theorem uw(l:List Nat):∀x,x∈lL l↔x∈l:=by
 induction l using NK with
 |h0=>exact λ_=>Iff.rfl
 | hs l s a=>
   grind[yS,wBX,id]
theorem Qr(l:List Nat):(lL l).Nodup:=by
 induction l using NK with
 |h0=>exact List.nodup_nil
 | hs l s a=>
   grind[yS,wBv,wBn,List.nodup_nil,wBX]
theorem Hj{l:List Nat} {x:Nat} (h:x∈l):l[l.idxOf x]? =some x:=by
 grind
theorem qX{l:List Nat} (a:l.Nodup) {i j x:Nat} (hi:l[i]? =some x) (b:l[j]? =some x):i=j:=by
 grind[jP,wBA,wB6,absurd]
theorem zc4{l:List Nat}(a:l.Nodup){i x:Nat}(h:l[i]? =some x):l.idxOf x=i:=by grind
theorem QQ{l:List Nat} {x y:Nat} (a:x∈l) (b:y∈l) (h:l.idxOf x=l.idxOf y):x=y:=by
 grind[Hj,Option.some.inj]
theorem L5{p:Nat->Bool}:∀{l:List Nat} {k v:Nat},l[k]? =some v->p v=true->(l.filter p)[((l.take k).filter p).length]? =some v
 |[],k,v,h,_=>by simp_all
 | a::l,0,v,h,hp=>by
   simp_all
 | a::l,k+1,v,h,hp=>by
   have b:=L5 (l:=l) (k:=k) (by simp_all) hp
   grind
theorem zbh{p:Nat->Bool} {l:List Nat} {j k w:Nat} (h:l[j]? =some w) (hp:p w=true) (a:j<k):((l.take j).filter p).length<((l.take k).filter p).length:=by
 obtain ⟨b,rfl⟩:=jP.1 h;have e:l.take k=l.take j++l[j]::((l.take k).drop (j+1)):=by
  conv=>lhs;rw[<-Zp j (l.take k)]
  rw[List.take_take,wBm (by omega)];congr 1;rw[Xx (by grind),List.getElem_take]
 grind
section
variable (u:U)(as:Nat->Int)
def stays(v:Nat):Bool:=as v == (v:Int)
def fG:List Nat:=u.blocks.flatMap λB=>B.ef.filter (stays as)
def xH:Nat->Nat->Nat
 |0,v=>v
 |k+1,v=>if 0<=as v/\as v≠(v:Int) then xH k (as v).toNat else v
def nm(v:Nat):Nat:=if xH as (u.ef.length+1) v∈fG u as then(fG u as).idxOf (xH as (u.ef.length+1) v) else 0
def KN:List Nat:=(fG u as).filterMap (λn=>match u.ef[n]? with
  |some x=>if leaves x.op=true then some x.state else none
  |none=>none)++u.blocks.filterMap λB=>if B.fin=3 then some B.state else none
def Hb:List Nat:=lL (KN u as)
def ie(x:Vl):Vl where
 op:=x.op
 a:=if 0<(if two x.op=true then 2 else if na x.op=true then 1 else 0) then nm u as x.a else x.a
 b:=if two x.op=true then nm u as x.b else x.b
 n:=x.n
 args:=if x.op=21\/x.op=20 then x.args.map (nm u as) else x.args
 state:=if leaves x.op=true then(Hb u as).idxOf x.state else x.state
def mf(B:Bk):Bk where
 ef:=(B.ef.filter (stays as)).map (fG u as).idxOf
 fin:=B.fin
 cond:=if B.fin=2 then nm u as B.cond else B.cond
 next:=B.next
 eQ:=B.eQ
 state:=if B.fin=3 then(Hb u as).idxOf B.state else B.state
def We(f:Fm):Fm:=⟨f.func,f.pc,f.locals.map (nm u as),f.stack.map (nm u as)⟩
def ic:U where
 func:=u.func
 pc:=u.pc
 ef:=(fG u as).map λn=>ie u as (u.ef.getD n ⟨0,0,0,0,[],0⟩)
 blocks:=u.blocks.map (mf u as)
 eh:=(Hb u as).map λs=>(u.eh.getD s []).map (We u as)
end
def zaq(u:U):Prop:=∀(v:Nat) (b:Nat) (k:Nat) (b':Nat) (k':Nat),At u v b k->At u v b' k'->b=b'/\k=k'
theorem IY{u:U} (c:zaq u) {b:Nat} {B:Bk} (a:u.blocks[b]? =some B):B.ef.Nodup:=by
 refine wBA.2 λi j hi d f e=>?_;have g:At u B.ef[i] b i:=⟨B,a,gW hi⟩
 have h:At u B.ef[i] b j:=⟨B,a,by rw[e];exact gW d⟩
 have:=(c _ _ _ _ _ g h).2;omega
theorem zV{u:U} {as:Nat->Int} (f:zaq u):(fG u as).Nodup:=by
 unfold fG;have b:∀(l:List Bk) (i:Nat),(∀k B,l[k]? =some B->u.blocks[i+k]? =some B)->(l.flatMap λB=>B.ef.filter (stays as)).Nodup:=by
  intro l
  induction l with
  |nil=>simp_all
  | cons B l g=>
    intro i h;rw[List.flatMap_cons,wBv];have j:u.blocks[i]? =some B:=h 0 B rfl;refine⟨by grind[IY],g (i+1) λk C hk=>by rw[show i+1+k=i+(k+1) by omega];simp_all,λa m c hc e=>?_⟩;subst e;obtain⟨C,n,d⟩:=Xq.1 hc;obtain⟨k,hk⟩:=mQ.1 n;obtain⟨o,p⟩:=mQ.1 (Ks.1 m).1;obtain⟨q,r⟩:=mQ.1 (Ks.1 d).1;have:=(f a i o (i+(k+1)) q ⟨B,j,p⟩ ⟨C,h (k+1) C (by simpa using hk),r⟩).1;omega
 exact b u.blocks 0 (by simp_all)
theorem Pt.short{nx:Nat->List Nat} {x:Nat}:∀{b l},Pt nx b l->x∈l->x≠b->∃a,Pt nx x a/\a.length<l.length
 | _,_,.nil,h,hn=>by
   simp_all
 | _,_,.step (p:=p) (b:=b) (l:=l) h e,c,hn=>by
   rcases OC.1 c with rfl|c
   ·omega
   ·by_cases hp:x=p
    ·subst hp
     exact⟨l,h,by simp⟩
    ·obtain⟨a,d,f⟩:=Pt.short h c hp
     exact⟨a,d,by simp;omega⟩
theorem qd.zaW{nx:Nat->List Nat} {a b:Nat} (c:qd nx a b) (d:qd nx b a) {l:List Nat} (e:Pt nx b l):a=b:=by
 have f:∀n (l:List Nat),l.length<=n->(Pt nx b l->a≠b->False)/\(Pt nx a l->a≠b->False):=by
  intro n
  induction n with
  | zero=>
    intro l e;have:l=[]:=by simp_all
    subst this
    exact⟨λh _=>(nomatch h),λh _=>(nomatch h)⟩
  | succ n m=>
    intro l e;refine⟨λh g=>?_,λh g=>?_⟩
    ·obtain⟨i,j,k⟩:=h.short (c l h) g
     grind
    ·obtain⟨i,j,k⟩:=h.short (d l h) g.symm
     grind
 by_cases h:a=b
 ·exact h
 ·exact((f l.length l (iZ _)).1 e h).elim
theorem qd.trans{nx:Nat->List Nat} {a b c:Nat} (g:qd nx a b) (j:qd nx b c):qd nx a c:=λl i=>by
 have d:∀{y l},Pt nx y l->b∈l->a∈l:=by
  intro y l hp
  induction hp with
  | nil=>
    intro f;obtain rfl:b=0:=by simp_all
    exact g _ .nil
  | step h e k=>
    intro f;rcases OC.1 f with rfl|f
    ·exact g _ (.step h e)
    simp_all
 exact d i (j l i)
structure Fit (u:U) (as:Nat->Int):Prop where
 root:∀v,v<u.ef.length->0<=as v->∃w:Nat,as v=(w:Int)/\w<u.ef.length/\as w=(w:Int)
 up:∀(v w b k:Nat),as v=(w:Int)->At u v b k->∃c j,At u w c j/\(c=b/\j<=k\/c≠b/\qd (next u) c b)
 zcC:∀(v w:Nat),as v=(w:Int)->nt u v->nt u w
 use:∀(v:Nat) (x:Vl),u.ef[v]? =some x->stays as v=true->∀w∈iH x,0<=as w
 st:∀(v:Nat) (x:Vl) (fs:List Fm),u.ef[v]? =some x->stays as v=true->leaves x.op=true->u.eh[x.state]? =some fs->∀w∈hO fs,0<=as w
 cond:∀(b:Nat) (B:Bk),u.blocks[b]? =some B->B.fin=2->0<=as B.cond
 out:∀(b:Nat) (B:Bk) (fs:List Fm),u.blocks[b]? =some B->B.fin=3->u.eh[B.state]? =some fs->∀w∈hO fs,0<=as w
class Vu (P:Nat->Prop) (as:Nat->Int):Prop where
 h:∀v,stays as v=true->P v
instance (as:Nat->Int):Vu (λ_=>True) as:=⟨λ_ _=>trivial⟩
instance (as:Nat->Int):Vu (λv=>stays as v=true) as:=⟨λ_ h=>h⟩
section
variable{u:U}{P:Nat->Prop}{as:Nat->Int}[hP:Vu P as] (g:Gd u P)(f:Fit u as)
include g
theorem iU{v:Nat}:v∈fG u as↔v<u.ef.length/\stays as v=true:=by
 unfold fG;rw[Xq];constructor
 ·rintro⟨B,e,hv⟩;obtain⟨a,c⟩:=Ks.1 hv;obtain⟨b,d⟩:=mQ.1 e;obtain⟨k,hk⟩:=mQ.1 a;exact⟨g.jE v b k ⟨B,d,hk⟩,c⟩
 ·rintro⟨a,c⟩;obtain⟨b,k,B,d,hk⟩:=g.Fi v a (hP.h v c)
  grind
theorem Ab{b:Nat}{B:Bk}(a:u.blocks[b]? =some B):B.ef.Nodup:=IY g.Ju a
omit hP in
theorem BP:(fG u as).Nodup:=zV g.Ju
omit g in
include f in
theorem zal {v:Nat} (hv:v<u.ef.length) (h0:0<=as v):∃w:Nat,xH as (u.ef.length+1) v=w/\as v=(w:Int)/\w<u.ef.length/\as w=(w:Int):=by
 obtain⟨w,h1,h2,h3⟩:=f.root v hv h0;refine⟨w,?_,h1,h2,h3⟩;unfold xH;split
 ·rename_i h;rw[h1];show xH as u.ef.length w=w;cases u.ef.length <;> simp_all[xH,if_neg]
 omega
include f
theorem VQ{v:Nat} (hv:v<u.ef.length) (h0:0<=as v):∃w:Nat,as v=(w:Int)/\w∈fG u as/\nm u as v=(fG u as).idxOf w:=by
 obtain⟨w,d,a,b,e⟩:=zal f hv h0;have c:w∈fG u as:=(iU g).2 ⟨b,by simp_all[stays]⟩;exact⟨w,a,c,by simp_all[nm,if_pos]⟩
omit f g
theorem Qn{i n:Nat} {x:Vl} (hi:(fG u as)[i]? =some n) (a:u.ef[n]? =some x):(ic u as).ef[i]? =some (ie u as x):=by
 show((fG u as).map _)[i]? =_
 simp_all
theorem Eg(g:Gd u P) {i:Nat} {y:Vl} (h:(ic u as).ef[i]? =some y):∃n x,(fG u as)[i]? =some n/\u.ef[n]? =some x/\y=ie u as x/\stays as n=true:=by
 have h:((fG u as).map _)[i]? =some y:=h;rw[CH]at h
 cases hn:(fG u as)[i]? with
 |none=>simp_all
 | some n=>
   obtain⟨a,b⟩:=(iU g).1 (Dh hn)
   simp_all
theorem UJ{b:Nat} {B:Bk} (a:u.blocks[b]? =some B):(ic u as).blocks[b]? =some (mf u as B):=by
 show(u.blocks.map _)[b]? =_
 simp_all
theorem FU{b:Nat} {a:Bk} (h:(ic u as).blocks[b]? =some a):∃B,u.blocks[b]? =some B/\a=mf u as B:=by
 have h:(u.blocks.map _)[b]? =some a:=h
 grind
theorem XU(b:Nat):next (ic u as) b=next u b:=by
 unfold next
 cases hb:u.blocks[b]? with
 | none=>
   grind[ic]
 |some B=>rw[UJ hb];rfl
theorem Qx:next (ic u as)=next u:=funext XU
theorem Lp{h:Bk->Bk} (a:∀B,(h B).next=B.next) (b:Nat):∀(l:List Bk) (i:Nat),jQ (l.map h) i b=jQ l i b
 |[],_=>rfl
 | B::l,i=>by
   show((h B).next.filter (·= b)).map (λ_=>i)++jQ (l.map h) (i+1) b=_;rw[a,Lp a b l];rfl
theorem PS(b:Nat):ahead (ic u as) b=ahead u b:=Lp (h:=mf u as) (λ_=>rfl) b u.blocks 0
def pk(u:U) (as:Nat->Int) (b k:Nat):Nat:=match u.blocks[b]? with
 |some B=>((B.ef.take k).filter (stays as)).length
 |none=>0
theorem zcs{v b k:Nat} (h:At u v b k) (hs:stays as v=true):At (ic u as) ((fG u as).idxOf v) b (pk u as b k):=by
 obtain⟨B,a,hv⟩:=h;refine⟨_,UJ a,?_⟩;show((B.ef.filter (stays as)).map _)[pk u as b k]? =_
 grind[pk,L5]
theorem zb2{v b j k:Nat} (h:At u v b j) (hs:stays as v=true) (a:j<k):pk u as b j<pk u as b k:=by
 obtain⟨B,c,hv⟩:=h
 simp_all[pk,zbh]
theorem Js(g:Gd u P) {i b k:Nat} (h:At (ic u as) i b k):∃v j,At u v b j/\stays as v=true/\i=(fG u as).idxOf v/\k=pk u as b j/\(fG u as)[i]? =some v:=by
 obtain⟨m,c,hi⟩:=h;obtain⟨B,e,rfl⟩:=FU c;have hi:((B.ef.filter (stays as)).map _)[k]? =some i:=hi;rw[CH]at hi
 cases hv:(B.ef.filter (stays as))[k]? with
 |none=>simp_all
 | some v=>
   rw[hv]at hi;obtain rfl:(fG u as).idxOf v=i:=Option.some.inj hi;obtain⟨l,d⟩:=Ks.1 (Dh hv);obtain⟨j,f⟩:=mQ.1 l;have a:At u v b j:=⟨B,e,f⟩
   refine⟨v,j,a,d,rfl,?_,Hj ((iU g).2 ⟨g.jE _ _ _ a,d⟩)⟩;unfold pk;rw[e];exact qX (by grind[Ab]) hv (L5 f d)
theorem Yz(x:Vl):iH (ie u as x)=(iH x).map (nm u as):=by
 unfold iH;show(if x.op=21 then(ie u as x).args else if x.op=20 then(ie u as x).a::(ie u as x).b::(ie u as x).args.take 1 else if two x.op=true then[(ie u as x).a,(ie u as x).b] else if na x.op=true then[(ie u as x).a] else[])=_;unfold ie;simp only;by_cases c:x.op=21
 ·simp[c]
 ·rw[if_neg c,if_neg c];by_cases d:x.op=20
  ·simp_all[if_pos,two,List.map_take]
  grind
include g f
theorem Mh{w:Nat} (h:nt u w) (h0:0<=as w):nt (ic u as) (nm u as w):=by
 obtain⟨x,i,_⟩:=id h;obtain⟨r,a,b,c⟩:=VQ g f (by grind) h0;obtain⟨y,d,e⟩:=f.zcC w r a h;exact⟨ie u as y,by rw[c];exact Qn (Hj b) d,e⟩
theorem Yh{w b k:Nat} (h:Bn u w b k) (s:b<u.blocks.length) (h0:0<=as w):Bn (ic u as) (nm u as w) b (pk u as b k):=by
 obtain⟨c,j,d,hc⟩:=h;obtain⟨r,t,v,z⟩:=VQ g f (g.jE _ _ _ d) h0;obtain⟨c',x,i,m⟩:=f.up w r c j t d;have hs:=((iU g).1 v).2;refine⟨c',pk u as c' x,by grind[zcs],?_⟩;rw[Qx];rcases hc with⟨rfl,A⟩|⟨o,q⟩
 ·rcases m with⟨rfl,p⟩|⟨n,a⟩
  ·exact .inl ⟨rfl,zb2 i hs (by omega)⟩
  simp_all
 ·rcases m with⟨rfl,p⟩|⟨n,a⟩
  ·simp_all
  ·refine .inr ⟨λe=>?_,a.trans q⟩;subst e;obtain⟨l,y⟩:=g.reach c' s;exact o (q.zaW a y)
theorem K8{w b:Nat} (h:rh u w b) (h0:0<=as w):rh (ic u as) (nm u as w) b:=by
 obtain⟨c,j,a,i⟩:=h;obtain⟨r,l,n,o⟩:=VQ g f (g.jE _ _ _ a) h0;obtain⟨c',m,k,d⟩:=f.up w r c j l a;refine⟨c',pk u as c' m,by grind[zcs,iU],?_⟩;rw[Qx];rcases d with⟨rfl,_⟩|⟨_,e⟩
 ·exact i
 ·exact e.trans i
omit f in
theorem K0 {s:Nat} (h:s∈KN u as):s<u.eh.length/\((∃(v b k:Nat) (x:Vl),At u v b k/\stays as v=true/\u.ef[v]? =some x/\leaves x.op=true/\x.state=s)\/∃(b:Nat) (B:Bk),u.blocks[b]? =some B/\B.fin=3/\B.state=s):=by
 unfold KN at h;rcases I8.1 h with h|h
 ·obtain⟨n,hn,hs⟩:=List.mem_filterMap.1 h;obtain⟨h1,hs1⟩:=(iU g).1 hn;have hx:=gW h1;rw[hx]at hs;simp only at hs;split at hs
  ·rename_i hl;cases hs;obtain⟨b,k,OE⟩:=g.Fi n h1 (hP.h n hs1);exact⟨g.leave n _ hx hl,by grind⟩
  ·cases hs
 ·obtain ⟨B,hB,hs⟩:=List.mem_filterMap.1 h;obtain⟨b,hb⟩:=mQ.1 hB;split at hs
  ·rename_i h3;cases hs;refine⟨?_,by grind⟩;rcases g.fin b B hb with⟨h4,_⟩|⟨h4,_⟩|⟨_,_,h4⟩
   ·omega
   ·omega
   ·exact h4
  ·cases hs
omit g f in
theorem Us {s:Nat} {fs:List Fm} (h:s∈Hb u as) (hs:u.eh[s]? =some fs):(ic u as).eh[(Hb u as).idxOf s]? =some (fs.map (We u as)):=by
 show((Hb u as).map _)[_]? =_
 grind
omit f in
theorem zcc {i:Nat} {gs:List Fm} (h:(ic u as).eh[i]? =some gs):∃s fs,s∈Hb u as/\u.eh[s]? =some fs/\gs=fs.map (We u as):=by
 have h:((Hb u as).map _)[i]? =some gs:=h;rw[CH]at h
 cases hn:(Hb u as)[i]? with
 |none=>simp_all
 | some s=>
   rw[hn]at h;have hm:s∈Hb u as:=Dh hn;have hl:=(K0 g ((uw _ _).1 hm)).1
   grind
omit g f in
theorem N4 (fs:List Fm):hO (fs.map (We u as))=(hO fs).map (nm u as):=by
 unfold hO;rw[List.flatMap_map,List.map_flatMap];congr 1;funext x;rw[Ox];rfl
omit f in
theorem zeh {v:Nat} {x:Vl} (hs:stays as v=true) (hx:u.ef[v]? =some x) (hl:leaves x.op=true):x.state∈Hb u as:=by
 refine(uw _ _).2 (Xu _ (List.mem_filterMap.2 ⟨v,by grind[iU,jP],?_⟩))
 simp_all
omit g f in
theorem zc7 {b:Nat} {B:Bk} (hB:u.blocks[b]? =some B) (h3:B.fin=3):B.state∈Hb u as:=
 (uw _ _).2 (List.mem_append_right _ (List.mem_filterMap.2 ⟨B,Dh hB,by rw[if_pos h3]⟩))
omit f in
theorem QJ {v b k:Nat} {x:Vl} (h:At u v b k) (hx:u.ef[v]? =some x) (hh:hZ x.op=true):∀{w j:Nat} {y:Vl},At u w b j->u.ef[w]? =some y->j<=k->hZ y.op=true:=by
 have key:∀(n v k:Nat) (x:Vl),At u v b k->u.ef[v]? =some x->hZ x.op=true->∀{w j:Nat} {y:Vl},At u w b j->u.ef[w]? =some y->j+n=k->hZ y.op=true:=by
  intro n
  induction n with
  | zero=>
    intro v k x h hx hh w j y hw hy e;obtain rfl:j=k:=by omega
    obtain⟨B,h1,h2⟩:=h;obtain⟨B',h3,h4⟩:=hw
    simp_all
  | succ n ih=>
    intro v k x h hx hh w j y hw hy e;obtain⟨k,rfl⟩:∃i,k=i+1:=⟨k-1,by omega⟩
    obtain⟨B,h1,h2⟩:=h;have hk:k<B.ef.length:=by have:=(jP.1 h2).1;omega
    have h3:At u (B.ef[k]) b k:=⟨B,h1,gW hk⟩
    have hz:=gW (g.jE _ _ _ h3);exact ih _ k _ h3 hz (g.B4 _ _ _ _ _ _ ⟨B,h1,h2⟩ h3 hx hz hh) hw hy (by omega)
 exact λ{w j y} hw hy hj=>key (k-j) v k x h hx hh hw hy (by omega)
theorem Wu:Good (ic u as):=by
 have hL:(fG u as).length<=u.ef.length:=jj _ _ (BP g) λv h=>((iU g).1 h).1;have hS:(Hb u as).length<=u.eh.length:=jj _ _ (Qr _) λs hs=>(K0 g ((uw _ _).1 hs)).1;have hlen:(ic u as).ef.length=(fG u as).length:=by
  show((fG u as).map _).length=_;rw[DL]
 have J:(ic u as).blocks.length=u.blocks.length:=by
  show(u.blocks.map _).length=_;rw[DL]
 have ng:(ic u as).eh.length=(Hb u as).length:=by
  show((Hb u as).map _).length=_;rw[DL]
 have V:∀s fs,s∈Hb u as->u.eh[s]? =some fs->∀w∈hO fs,0<=as w:=by
  intro s fs hs q w e;rcases(K0 g ((uw _ _).1 hs)).2 with⟨v,b,k,x,_,a,I,C,rfl⟩|⟨b,B,c,a,rfl⟩
  ·exact f.st v x fs I a C q w e
  ·exact f.out b B fs c a q w e
 have l:∀{i b k:Nat} {y:Vl},At (ic u as) i b k->(ic u as).ef[i]? =some y->∃v j x,At u v b j/\stays as v=true/\i=(fG u as).idxOf v/\k=pk u as b j/\u.ef[v]? =some x/\y=ie u as x:=by
  intro i b k y M m;obtain⟨v,j,c,a,I,C,r⟩:=Js g M;obtain⟨n,x,L,S,W,_⟩:=Eg g m;rw[r]at L;cases L;exact by grind
 have R:∀{v b k:Nat},At u v b k->b<u.blocks.length:=λ⟨B,h,_⟩=>(jP.1 h).1
 refine
  { nv:=by rw[hlen];have:=g.nv;omega
    KC:=by rw[J];exact g.KC
    nb:=by rw[J];exact g.nb
    ns:=by rw[ng];have:=g.ns;omega
    st:=?_,Fi:=?_,Ju:=?_,jE:=?_,B4:=?_,par:=?_,CJ:=?_,op:=?_,use:=?_,leave:=?_,putAt:=?_,param:=?_,fin:=?_,nx:=?_,eQ:=?_,Cl:=?_,HC:=?_,reach:=?_,DD:=?_,Dn:=?_,Gb:=?_,Dk:=?_,Gc:=?_}
 ·intro s gs hs;obtain⟨s0,fs,c,a,rfl⟩:=zcc g hs;obtain⟨I,C,r⟩:=g.st s0 fs a;refine⟨by simpa using I,by simpa using C,λf' X=>?_⟩;obtain⟨N,Y,rfl⟩:=LB.1 X;obtain⟨Z,h7,h8,h9⟩:=r N Y;have ag:∀w,w∈N.locals\/w∈N.stack->0<=as w:=λw e=>V s0 fs c a w (by
   grind[hO])
  refine⟨by show(N.locals.map _).length<=40;simpa using Z,by show(N.stack.map _).length<=60;simpa using h7,λv hv=>?_,λv hv=>?_⟩
  ·obtain⟨w,e,rfl⟩:=LB.1 (show v∈N.locals.map (nm u as) from hv)
   grind[Mh]
  ·obtain⟨w,e,rfl⟩:=LB.1 (show v∈N.stack.map (nm u as) from hv)
   grind[Mh]
 ·intro i hi _;rw[hlen]at hi;have hn:=gW hi;obtain⟨c,a⟩:=(iU g).1 (Dh hn);obtain⟨b,k,M⟩:=g.Fi _ c (hP.h _ a);refine⟨b,pk u as b k,?_⟩;have:=zcs M a
  grind[zc4,BP]
 ·intro i b k b' k' h h';obtain⟨v,j,c,a,I,C,r⟩:=Js g h;obtain⟨v',j',L,S,W,g4,T⟩:=Js g h';rw[r]at T;cases T;obtain⟨rfl,rfl⟩:=g.Ju _ _ _ _ _ c L;omega
 ·grind[Js,jP]
 ·intro i i' b k y y' h h' m aa hh;obtain⟨v,j,x,c,a,_,C,r,rfl⟩:=l h m;obtain⟨v',j',x',L,S,_,g4,T,rfl⟩:=l h' aa;show hZ x'.op=true;refine QJ g c r hh L T ?_
  grind[zb2]
 ·intro i b k y h m F;obtain⟨v,j,x,c,_,_,_,r,rfl⟩:=l h m;exact g.par v b j x c r F
 ·intro i b k y Q h m F d;obtain⟨v,j,x,c,_,_,_,r,rfl⟩:=l h m;obtain⟨B,A,rfl⟩:=FU d;obtain⟨Z,h7⟩:=g.CJ v b j x B c r F A;refine⟨Z,?_⟩;have D:x.op=21:=F;show(if x.op=21\/x.op=20 then x.args.map (nm u as) else x.args).length=B.eQ.length
  simp_all
 ·intro i y m;obtain⟨n,x,_,a,rfl,_⟩:=Eg g m;exact g.op n x a
 ·intro i y m w e;obtain⟨n,x,_,a,rfl,C⟩:=Eg g m;rw[Yz]at e;obtain⟨w0,o,rfl⟩:=LB.1 e;exact Mh g f (g.use n x a w0 o) (f.use n x a C w0 o)
 ·intro i y m hl;obtain⟨n,x,_,a,rfl,C⟩:=Eg g m;have E:leaves x.op=true:=hl;rw[ng];show(if leaves x.op=true then(Hb u as).idxOf x.state else x.state)<_;rw[if_pos E]
  grind[wBo,zeh]
 ·intro i y m F;obtain⟨n,x,_,a,rfl,C⟩:=Eg g m;have D:x.op=20:=F;show(if x.op=21\/x.op=20 then x.args.map (nm u as) else x.args).length=1;rw[if_pos (.inr D),DL];exact g.putAt n x a D
 ·intro i y m F;obtain⟨n,x,c,a,rfl,C⟩:=Eg g m;obtain⟨L,S,W⟩:=g.param n x a F;refine⟨L,S,λw z hz ab ac=>?_⟩;obtain⟨n',x',ae,G,rfl,_⟩:=Eg g hz;obtain rfl:=W n' x' G ab ac;exact qX (BP g) ae c
 ·intro b Q d;obtain⟨B,A,rfl⟩:=FU d;rcases g.fin b B A with⟨c,a⟩|⟨c,a,I⟩|⟨c,a,I⟩
  ·exact .inl ⟨c,a⟩
  ·refine .inr (.inl ⟨c,a,?_⟩);show nt _ (if B.fin=2 then nm u as B.cond else B.cond);rw[if_pos c];exact Mh g f I (f.cond b B A c)
  ·refine .inr (.inr ⟨c,a,?_⟩);rw[ng];show(if B.fin=3 then(Hb u as).idxOf B.state else B.state)<_;rw[if_pos c];exact wBo (zc7 A c)
 ·intro b t U;rw[XU]at U;rw[J];exact g.nx b t U
 ·intro b Q d;obtain⟨B,A,rfl⟩:=FU d;rw[PS];exact g.eQ b B A
 ·rw[PS];exact g.Cl
 ·intro b Q d a t U;obtain⟨B,A,rfl⟩:=FU d;rw[PS];exact g.HC b B A a t U
 ·intro b hb;rw[J]at hb;rw[Qx];exact g.reach b hb
 ·intro i b k y h m F w e;obtain⟨v,j,x,c,a,_,rfl,r,rfl⟩:=l h m;rw[Yz]at e;obtain⟨w0,o,rfl⟩:=LB.1 e;exact Yh g f (g.DD v b j x c r F w0 o) (R c) (f.use v x r a w0 o)
 ·intro i b k y Q h m F d j w p e hp;obtain⟨v,j0,x,c,a,_,rfl,r,rfl⟩:=l h m;obtain⟨B,A,rfl⟩:=FU d;have D:x.op=21:=F;have e:(if x.op=21\/x.op=20 then x.args.map (nm u as) else x.args)[j]? =some w:=e;rw[if_pos (.inl D),CH]at e
  cases hq:x.args[j]? with
  |none=>simp_all
  | some w0=>
    rw[hq]at e;obtain rfl:nm u as w0=w:=Option.some.inj e;exact K8 g f (g.Dn v b j0 x B c r D A j w0 p hq hp) (f.use v x r a w0 (by
      unfold iH
      grind))
 ·intro i b k y gs h m hl H w e;obtain⟨v,j,x,c,a,_,rfl,r,rfl⟩:=l h m;have E:leaves x.op=true:=hl;have O:(ie u as x).state=(Hb u as).idxOf x.state:=by
   show(if leaves x.op=true then _ else _)=_;rw[if_pos E]
  have P:=g.leave v x r E;have q:=gW P;rw[O,Us (by grind) q]at H;cases H;rw[N4]at e;obtain⟨w0,o,rfl⟩:=LB.1 e;exact Yh g f (g.Gb v b j x _ c r E q w0 o) (R c) (f.st v x _ r a E q w0 o)
 ·intro b Q d a;obtain⟨B,A,rfl⟩:=FU d;have G:B.fin=2:=a;show rh _ (if B.fin=2 then nm u as B.cond else B.cond) b;rw[if_pos G];exact K8 g f (g.Dk b B A G) (f.cond b B A G)
 ·intro b Q gs d I H w e;obtain⟨B,A,rfl⟩:=FU d;have K:B.fin=3:=I;have O:(mf u as B).state=(Hb u as).idxOf B.state:=by
   show(if B.fin=3 then _ else _)=_;rw[if_pos K]
  have P:B.state<u.eh.length:=by
   rcases g.fin b B A with⟨C,_⟩|⟨C,_⟩|⟨_,_,C⟩
   ·omega
   ·omega
   ·exact C
  have q:=gW P;rw[O,Us (zc7 A K) q]at H;cases H;rw[N4]at e;obtain⟨w0,o,rfl⟩:=LB.1 e;exact K8 g f (g.Gc b B _ A K q w0 o) (f.out b B _ A K q w0 o)
end
open Dm
section
variable (u:U)(kp:Nat->Bool)
def jA(b:Nat):Nat:=if kp b=true then((List.range b).filter kp).length else 0
def ry(i:Nat)(ps:List Nat):List Nat:=(List.range ps.length).filter λj=>kp (ps.getD j 0)&&(next u (ps.getD j 0)).contains i
def ku(i:Nat)(ps:List Nat):List Nat:=(ry u kp i ps).map λj=>jA kp (ps.getD j 0)
def oE(i:Nat)(ps args:List Nat):List Nat:=(ry u kp i ps).map λj=>args.getD j 0
def Oc:Bk:=⟨[],0,0,[],[],0⟩
def lR:List Nat:=(List.range u.blocks.length).filter kp
def Eu(b:Nat):Bk:={u.blocks.getD b Oc with next:=(u.blocks.getD b Oc).next.map (jA kp),eQ:=ku u kp b (u.blocks.getD b Oc).eQ}
structure Cut (u':U):Prop where
 func:u'.func=u.func
 pc:u'.pc=u.pc
 eh:u'.eh=u.eh
 blocks:u'.blocks=(lR u kp).map (Eu u kp)
 len:u'.ef.length=u.ef.length
 CJ:∀(v b k:Nat) (x:Vl) (B:Bk),At u v b k->u.ef[v]? =some x->x.op=21->kp b=true->u.blocks[b]? =some B->u'.ef[v]? =some {x with args:=oE u kp b B.eQ x.args}
 same:∀(v:Nat) (x:Vl),u.ef[v]? =some x->¬(x.op=21/\∃b k,At u v b k/\kp b=true)->u'.ef[v]? =some x
structure LM (az lO:List Int):Prop where
 len:lO.length=az.length
 gone:∀(v b k:Nat),At u v b k->kp b=false->v<az.length->lO[v]? =some (-1)
 same:∀(v:Nat),(¬∃b k,At u v b k/\kp b=false)->lO[v]? =az[v]?
end
section
variable{u u':U}{kp:Nat->Bool}
theorem filter_all{p:Nat->Bool}{l:List Nat}(h:∀x∈l,p x=true):l.filter p=l:=List.filter_eq_self.2 h
theorem RZ(hk:∀b,b<u.blocks.length->kp b=true) {b:Nat} (a:b<u.blocks.length):jA kp b=b:=by
 unfold jA;rw[if_pos (hk b a),filter_all (by grind),Tz]
theorem Pj(g:Good u) (hk:∀b,b<u.blocks.length->kp b=true) {b:Nat} {B:Bk} (d:u.blocks[b]? =some B):ry u kp b B.eQ=List.range B.eQ.length:=by
 unfold ry;refine filter_all λj a=>?_;have a:=TZ.1 a;rw[DY,gW a];have hp:B.eQ[j]∈ahead u b:=by rw[<-g.eQ b B d];exact AW a
 obtain⟨q,e,f,h,c⟩:=uF.1 hp;rw[zj]at c;rw[Option.getD_some,c,hk q (by grind),ZR,wBQ]
 grind[next]
theorem Mu(l:List Nat) (d:Nat):(List.range l.length).map (λj=>l.getD j d)=l:=by
 refine wBR λj=>?_
 grind
theorem Ug(g:Good u) (hk:∀b,b<u.blocks.length->kp b=true) {b:Nat} {B:Bk} (c:u.blocks[b]? =some B):Eu u kp b=B:=by
 have e:u.blocks.getD b Oc=B:=by rw[DY,c];rfl
 unfold Eu;rw[e];have f:B.next.map (jA kp)=B.next:=by
  have:∀t∈B.next,jA kp t=t:=λt h=>RZ hk (g.nx b t (by grind[next]));rw[Xv this,List.map_id''];exact λ_=>rfl
 have i:ku u kp b B.eQ=B.eQ:=by
  unfold ku;rw[Pj g hk c];have:∀j∈List.range B.eQ.length,jA kp (B.eQ.getD j 0)=B.eQ.getD j 0:=λj a=>by
   have a:=TZ.1 a;rw[DY,gW a,Option.getD_some];have hp:B.eQ[j]∈ahead u b:=by rw[<-g.eQ b B c];exact AW a
   obtain⟨q,k,f,_,d⟩:=uF.1 hp;rw[zj]at d;rw[d];exact RZ hk (by grind)
  rw[Xv this];exact Mu _ _
 simp_all
theorem Cut.eq(g:Good u) (hk:∀b,b<u.blocks.length->kp b=true) (c:Cut u kp u'):u' = u:=by
 have m:u'.blocks=u.blocks:=by
  rw[c.blocks,lR,filter_all (by simp_all)];refine wBR λb=>?_;by_cases h:b<u.blocks.length
  ·grind[List.getElem?_range,Ug,gW]
  ·simp_all
 have hv:u'.ef=u.ef:=by
  refine wBR λv=>?_;by_cases h:v<u.ef.length
  ·have d:=gW h;generalize u.ef[v]=x at*;rw[d];by_cases hp:x.op=21/\∃b k,At u v b k/\kp b=true
   ·obtain ⟨f,b,k,a,i⟩:=hp;obtain⟨B,j,l⟩:=id a;rw[c.CJ v b k x B a d f i j];have e:oE u kp b B.eQ x.args=x.args:=by
     unfold oE;rw[Pj g hk j,<-(g.CJ v b k x B a d f j).2];exact Mu _ _
    rw[e]
   ·exact c.same v x d hp
  ·rw[VM (by rw[c.len];omega),VM (by omega)]
 have f:=c.func;have n:=c.pc;have o:=c.eh;cases u;cases u'
 simp_all
theorem LM.eq{az lO:List Int} (c:LM u kp az lO) (hk:∀b,b<u.blocks.length->kp b=true):lO=az:=by
 refine wBR λv=>c.same v ?_;rintro⟨b,k,⟨B,a,_⟩,h⟩
 grind
end
open Dm
theorem Ny{l L:List Nat} (h:l <+: L) {v:Nat} (hv:v∈l):L.idxOf v=l.idxOf v:=by
 obtain⟨r,rfl⟩:=h
 grind
theorem Iv(l r:List Nat):lL l <+: lL (l++r):=by
 induction r using NK with
 |h0=>simp_all
 | hs r s a=>
   grind[LY,yS,List.prefix_append]
section
variable{u:U}{as:Nat->Int}
def j6(u:U) (as:Nat->Int) (i j:Nat):List Nat:=(u.blocks.take i).flatMap (λB=>B.ef.filter (stays as))++(match u.blocks[i]? with
 |some B=>(B.ef.take j).filter (stays as)
 |none=>[])
theorem Lj:j6 u as 0 0=[]:=by
 grind[j6]
theorem SB{i:Nat} {B:Bk} (a:u.blocks[i]? =some B):j6 u as i B.ef.length=j6 u as (i+1) 0:=by
 unfold j6;rw[a];obtain⟨b,rfl⟩:=jP.1 a
 grind[N6,List.flatMap_singleton,JC,stays]
theorem Uk:j6 u as u.blocks.length 0=fG u as:=by
 simp_all[j6,fG,JC,VM,iZ,Jk]
theorem LD{i j v:Nat} {B:Bk} (a:u.blocks[i]? =some B) (hv:B.ef[j]? =some v):j6 u as i (j+1)=if stays as v=true then j6 u as i j++[v] else j6 u as i j:=by
 unfold j6;rw[a];obtain⟨b,rfl⟩:=jP.1 hv
 grind[N6,LY]
theorem HY{i j:Nat} {B:Bk} (a:u.blocks[i]? =some B):j6 u as i j <+: fG u as:=by
 unfold j6 fG;rw[a];obtain⟨b,rfl⟩:=jP.1 a;have e:u.blocks=u.blocks.take i++u.blocks[i]::u.blocks.drop (i+1):=by
  conv=>lhs;rw[<-Zp i u.blocks]
  rw[Xx b]
 grind[stays,Zp,LY,List.prefix_append]
theorem zde(b:zaq u) {i j v:Nat} {B:Bk} (a:u.blocks[i]? =some B) (hv:B.ef[j]? =some v) (hs:stays as v=true):(fG u as).idxOf v=(j6 u as i j).length/\v ∉ j6 u as i j:=by
 have hp:=HY (as:=as) (j:=j+1) a;rw[LD a hv,if_pos hs]at hp;have c:=zV (as:=as) b;obtain⟨r,d⟩:=hp
 grind
theorem GZ(a:∀v b k,At u v b k->v<u.ef.length) {v:Nat} (hv:v∈fG u as):v<u.ef.length:=by
 unfold fG at hv;obtain⟨B,c,hv⟩:=Xq.1 hv;obtain⟨b,d⟩:=mQ.1 c;obtain⟨k,hk⟩:=mQ.1 (Ks.1 hv).1;exact a v b k ⟨B,d,hk⟩
theorem SR{n:Nat} (h:∀v,v<n->as v<(n:Int)):∀(k v:Nat),v<n->xH as k v<n
 |0,_,hv=>hv
 | k + 1,v,hv=>by
   unfold xH;split
   ·rename_i a
    exact SR h k _ (by simp_all)
   ·exact hv
def sX(u:U) (l:List Nat):List Nat:=l.filterMap λn=>match u.ef[n]? with
 |some x=>if leaves x.op=true then some x.state else none
 |none=>none
def BU(l:List Bk):List Nat:=l.filterMap λB=>if B.fin=3 then some B.state else none
theorem Pl:KN u as=sX u (fG u as)++BU u.blocks:=rfl
end
open Dm
def zfe(u:U) (v:Nat):Prop:=(∃x,u.ef[v]? =some x/\(x.op=19\/x.op=20\/x.op=22\/x.op=23))\/ (∃(i:Nat) (x:Vl) (fs:List Fm),u.ef[i]? =some x/\leaves x.op=true/\u.eh[x.state]? =some fs/\v∈hO fs)\/ (∃(b:Nat) (B:Bk),u.blocks[b]? =some B/\B.fin=2/\v=B.cond)\/ (∃(b:Nat) (B:Bk) (fs:List Fm),u.blocks[b]? =some B/\B.fin=3/\u.eh[B.state]? =some fs/\v∈hO fs)
inductive Live (u:U):Nat->Prop
 |root {v:Nat} (h:zfe u v):Live u v
 |use {v w:Nat} {x:Vl} (h:Live u v) (a:u.ef[v]? =some x) (b:w∈iH x):Live u w
def AL(l:List Vl):Prop:=∀x∈l,x.args.length<=2
section
variable{ops:List Int}
theorem OL:∀(i:Nat) (s:Ds) (l:List Nat),(some_ ops i s l).2.ef=s.ef
 |0,_,_=>rfl
 | i+1,s,l=>by
   unfold some_;rw[OL i];rfl
theorem BX(s:Ds):(fF ops s).2.ef=s.ef:=by
 show(some_ ops (num ops s 4).1 (num ops s 4).2 []).2.ef=s.ef;rw[OL];rfl
theorem KZ{s:Ds} {x:Vl} (h:AL s.ef) (c:x.args.length<=2):AL (put s x).ef:=λy a=>by
 have a:y∈s.ef++[x]:=a;rcases I8.1 a with b|b
 ·exact h y b
 simp_all
theorem z7{s:Ds}{x:Vl}(h:AL s.ef)(a:x.args.length<=2):AL (iP s x).ef:=KZ h a
theorem Yv{s:Ds} {k a b:Nat} (h:AL s.ef):AL (rY ops s k a b).ef:=by
 have hs:AL (fF ops s).2.ef:=by rw[BX];exact h
 unfold rY;by_cases c:k<12
 ·simp_all[if_pos,z7,vl]
 rw[if_neg c];by_cases c:k=12
 ·simp_all[if_pos,z7,num,vl]
 rw[if_neg c];by_cases c:k=13
 ·simp_all[if_pos,z7,num,vl]
 rw[if_neg c];by_cases c:k=14
 ·simp_all[if_pos,z7,vl]
 rw[if_neg c];by_cases c:k=15
 ·simp_all[if_pos,KZ,num,vl]
 rw[if_neg c];by_cases c:k=16
 ·simp_all[if_pos,KZ,fJ,vl]
 rw[if_neg c];by_cases c:k=17
 ·simp_all[if_pos,KZ,vl]
 rw[if_neg c];by_cases c:k=18
 ·simp_all[if_pos,KZ,vl]
 simp_all[if_neg,z7,num,vl]
theorem UH{s:Ds}(h:AL s.ef):AL (uk ops s).ef:=Yv h
theorem VU:∀(i:Nat) (s:Ds),AL s.ef->AL (rows ops i s).ef
 |0,_,h=>h
 | i+1,s,h=>by
   unfold rows;split
   ·exact VU i _ (UH h)
   ·exact h
theorem GN{s:Ds}(h:AL s.ef):AL (row ops s).ef:=VU _ _ h
theorem M3{s:Ds} {v:Nat} {l:List Nat} (h:AL s.ef) (a:l.length<=2):AL (setArgs s v l).ef:=λy b=>by
 obtain⟨i,hi⟩:=mQ.1 b;have hi:(s.ef.modify v λx=>{x with args:=l})[i]? =some y:=hi;rw[List.getElem?_modify]at hi
 cases hx:s.ef[i]? with
 |none=>simp_all
 | some x=>
   rw[hx]at hi;have hi:some (if v=i then{x with args:=l} else x)=some y:=hi;have:=Option.some.inj hi;subst this;split
   ·exact a
   ·exact h x (Dh hx)
theorem zau{t:Dt} (h:AL t.s.ef):AL (fork ops t).s.ef:=by
 unfold fork;refine GN (z7 ?_ (by simp[vl]));refine GN (s:=(end_ _ _ _ _ _ _).s) ?_;exact GN (s:=(end_ _ _ _ _ _ _).s) h
theorem zaj{t:Dt} (h:AL t.s.ef):AL (za ops t).s.ef:=by
 unfold za;refine GN (s:=(end_ _ _ _ _ _ _).s) ?_;show AL (fF ops _).2.ef;rw[BX];exact GN (s:=(end_ _ _ _ _ _ _).s) h
theorem zaw{t:Dt} (h:AL t.s.ef):AL (loop ops t).s.ef:=by
 unfold loop;refine GN (s:=(end_ _ _ _ _ _ _).s) ?_;refine M3 (s:=_) ?_ (by simp);have c:∀(a:Ds) (p:Nat) (l b:List Nat),l.length<=2->b.length<=2->AL a.ef->AL (if(num ops (setArgs a p l) 3).1=0 then setArgs (num ops (setArgs a p l) 3).2 p b else(num ops (setArgs a p l) 3).2).ef:=by grind[M3,num,setArgs]
 grind[GN,end_,z7,KZ,vl,BX,fJ]
theorem OV:∀(l:List Int) (t:Dt),AL t.s.ef->AL (lI ops l t).s.ef
 |[],_,h=>h
 | k ::l,t,h=>by
   unfold lI;split
   ·refine OV l _ ?_
    grind[uu,zau,zaw,zaj]
   ·exact h
theorem Pr:∀(n i:Nat) (s:Ds),AL s.ef->AL (params n i s).ef
 |0,_,_,h=>h
 |n+1,i,s,h=>Pr n (i+1) _ (by grind[z7,vl])
theorem zbn(ops a:List Int) (n:Int):AL (Is ops a n).ef:=by
 unfold Is;show AL (fF ops _).2.ef;rw[BX];refine OV _ _ ?_;exact GN (z7 (Pr _ _ _ (λ_ h=>nomatch h)) (by simp[vl]))
end
open Dm
def Tx(nx:Nat->List Nat)(Fe:Int)(b:Nat):Prop:=∃l,Pt nx b l/\∀x∈l,(x:Int)≠Fe
theorem V0{nx:Nat->List Nat} {a b:Nat}:¬Tx nx (a:Int) b↔qd nx a b:=by
 constructor
 ·intro h l c;refine Classical.byContradiction λf=>h ⟨l,c,λx d e=>f ?_⟩
  grind
 ·rintro h ⟨l,c,d⟩;exact d a (h l c) rfl
structure Wo (n:Nat) (nx:Nat->List Nat) (Fe:Int) (c:Option (Nat×Nat)) (seen:List Bool) (todo:List Nat):Prop where
 len:seen.length=n
 zero:seen[0]? =some true
 sound:∀v:Nat,seen[v]? =some true->Tx nx Fe v
 work:∀v∈todo,seen[v]? =some true
 closed:∀v:Nat,seen[v]? =some true->v∈todo\/∀(k t:Nat),(nx v)[k]? =some t->(t:Int)≠Fe->seen[t]? =some true\/∃j,c=some (v,j)/\j<=k
 less:todo.length+seen.count false<=n
theorem count_set{l:List Bool}:∀{v:Nat},l[v]? =some false->(l.set v true).count false+1=l.count false:=by
 grind
section
variable{n:Nat}{nx:Nat->List Nat}{Fe:Int}{seen:List Bool}{todo:List Nat}
theorem Wo.start(b:0<n) (h0:Fe≠0):Wo n nx Fe none ((List.replicate n false).set 0 true) [0]:=by
 have hs:∀v:Nat,((List.replicate n false).set 0 true)[v]? =some true->v=0:=λv hv=>by
  grind
 have a:((List.replicate n false).set 0 true)[0]? =some true:=by simp_all
 refine⟨by simp,a,λv hv=>?_,λv hv=>?_,by simp_all,?_⟩
 ·rw[hs v hv];exact⟨[0],.nil,by grind⟩
 ·simp_all
 grind
theorem Wo.pop{b:Nat} (w:Wo n nx Fe none seen (b::todo)):Wo n nx Fe (some (b,0)) seen todo/\Tx nx Fe b:=by
 have a:=w.less;rw[QN]at a;refine⟨⟨w.len,w.zero,w.sound,λv hv=>w.work v (by simp[hv]),λv hv=>?_,by omega⟩,w.sound b (w.work b (by simp))⟩;rcases w.closed v hv with h|h
 ·grind
 grind
theorem Wo.skip{b j t:Nat} (w:Wo n nx Fe (some (b,j)) seen todo) (c:(nx b)[j]? =some t) (h:(t:Int)=Fe\/seen[t]? =some true):Wo n nx Fe (some (b,j+1)) seen todo:=by
 refine⟨w.len,w.zero,w.sound,w.work,λv hv=>?_,w.less⟩;rcases w.closed v hv with a|a
 ·simp_all
 grind
theorem Wo.push{b j t:Nat} (w:Wo n nx Fe (some (b,j)) seen todo) (d:(nx b)[j]? =some t) (e:Tx nx Fe b) (k:(t:Int)≠Fe) (c:seen[t]? =some false):Wo n nx Fe (some (b,j+1)) (seen.set t true) (todo++[t]):=by
 have f:=(jP.1 c).1;have a:(seen.set t true)[t]? =some true:=by simp_all
 have up:∀v:Nat,seen[v]? =some true->(seen.set t true)[v]? =some true:=by grind
 have down:∀v:Nat,(seen.set t true)[v]? =some true->v=t\/seen[v]? =some true:=by grind
 refine⟨by rw[LU];exact w.len,up 0 w.zero,λv hv=>?_,λv hv=>?_,λv hv=>?_,?_⟩
 ·rcases down v hv with rfl|h
  ·obtain⟨l,g,m⟩:=e;exact⟨v::l,.step g (Dh d),by simp_all⟩
  ·exact w.sound v h
 ·rcases I8.1 hv with h|h
  ·exact up v (w.work v h)
  simp_all
 ·rcases down v hv with rfl|h
  ·simp_all
  ·rcases w.closed v h with i|i
   ·simp_all
   grind
 ·have:=count_set c;have:=w.less
  grind
theorem Wo.next{b:Nat} (w:Wo n nx Fe (some (b,(nx b).length)) seen todo):Wo n nx Fe none seen todo:=by
 refine⟨w.len,w.zero,w.sound,w.work,λv hv=>(w.closed v hv).imp id λh k t hk a=>?_,w.less⟩
 grind
theorem Wo.all(w:Wo n nx Fe none seen []):∀{b:Nat} {l:List Nat},Pt nx b l->(∀x∈l,(x:Int)≠Fe)->seen[b]? =some true
 |_,_,.nil,_=>w.zero
 | _,_,.step (p:=p) h e,hx=>by
   have c:=w.all h (by simp_all);obtain⟨k,hk⟩:=mQ.1 e;rcases w.closed p c with a|a
   ·cases a
   grind
theorem Wo.iff(w:Wo n nx Fe none seen []) (b:Nat):seen[b]? =some true↔Tx nx Fe b:=
 ⟨w.sound b,λ⟨_,a,c⟩=>w.all a c⟩
theorem Xm{b:Nat} (h:Fe=0):¬Tx nx Fe b:=by
 rintro⟨l,a,c⟩;have:0∈l:=by
  clear c
  induction a with
  |nil=>simp_all
  |step _ _ d=>simp_all
 grind
end
open Dm
def pz(n:Int):Int:=n % 18446744073709551616
def uA(n:Int):Int:=if n<9223372036854775808 then n else n-18446744073709551616
def Iy(b:Bool):Int:=if b=true then 1 else 0
def A4(op:Nat) (a b:Int):Int:=
 if op=3 then pz (a+b) else if op=4 then pz (a-b) else if op=5 then pz (a*b)
 else if op=6 then(if uA b=0 then 0 else if uA b = -1 then pz (-a) else pz ((uA a).tdiv (uA b)))
 else if op=7 then(if uA b=0\/uA b = -1 then 0 else pz ((uA a).tmod (uA b)))
 else if op=8 then pz (-a) else if op=9 then Iy (decide (a=0)) else if op=10 then Iy (decide (a=b)) else if op=11 then Iy (decide (a≠b))
 else if op=12 then Iy (decide (uA a<uA b)) else if op=13 then Iy (decide (uA a<=uA b)) else if op=14 then Iy (decide (a<b)) else 0
def tw(h:List Int)(a:Int):Int:=h.getD a.toNat 0
def ND(h:List Int)(a v:Int):List Int:=if a=0 then h else h.set a.toNat v
def E9(x:Vl) (val:Nat->Int) (h:List Int):Int:=
 if x.op=2 then pz x.n else if x.op=15 then tw h (val x.a) / 4294967296 else if x.op=16 then tw h (val x.a) % 4294967296
 else if x.op=17 then tw h (pz (val x.a+pz x.n)) else if x.op=18 then tw h (pz (pz (val x.a+1)+val x.b))
 else if x.op=8\/x.op=9 then A4 x.op (val x.a) 0 else A4 x.op (val x.a) (val x.b)
structure Rs where
 val:List Int
 heap:List Int
 steps:Nat
 polls:Nat
def Rs.of(s:Rs)(v:Nat):Int:=s.val.getD v 0
structure Fw where
 func:Int
 pc:Int
 locals:List Int
 stack:List Int
inductive Ex where
 |zB
 |left (steps:Nat) (fr:List Fw) (heap:List Int)
 |stuck
def qi(u:U)(s:Rs)(st:Nat):Ex:= .left s.steps (((u.eh[st]?).getD []).map λf=>⟨f.func,f.pc,f.locals.map s.of,f.stack.map s.of⟩) s.heap
def pw(u:U) (gw:Int) (n:Nat) (x:Vl) (s:Rs):Ex ⊕ Rs:=
 if x.op=19 then .inr {s with heap:=ND s.heap (pz (s.of x.a+pz x.n)) (s.of x.b),steps:=s.steps+1}
 else if x.op=20 then .inr {s with heap:=ND s.heap (pz (pz (s.of x.a+1)+s.of x.b)) (s.of (x.args.getD 0 0)),steps:=s.steps+1}
 else if x.op=22 then(if s.of x.a=0 then .inl (qi u {s with steps:=s.steps+1} x.state) else .inr {s with steps:=s.steps+1})
 else if x.op=23 then(if 0<=gw/\(s.polls:Int)=gw then .inl (qi u {s with steps:=s.steps+1} x.state) else .inr {s with steps:=s.steps+1,polls:=s.polls+1})
 else .inr {s with val:=s.val.set n (E9 x s.of s.heap),steps:=s.steps+1}
def nB(u:U) (gw:Int) (fuel:Nat):List Nat->Rs->Ex ⊕ Rs
 |[],s=> .inr s
 | n ::l,s=>if fuel<=s.steps then .inl .zB else match u.ef[n]? with
   |none=> .inl .stuck
   | some x=>match pw u gw n x s with
     | .inl e=> .inl e
     | .inr s=>nB u gw fuel l s
def fP(u:U) (v:Nat):Bool:=match u.ef[v]? with
 |some x=>hZ x.op
 |none=>false
def sB(u:U) (locals:List Int) (l0:Option Nat) (B:Bk) (val:Nat->Int) (v:Nat):Int:=match u.ef[v]? with
 | some x=>if x.op=1 then locals.getD x.n.toNat 0 else match l0 with
   | some p=>match B.eQ.findIdx? (·== p)with
     |some j=>val (x.args.getD j 0)
     |none=>0
   |none=>0
 |none=>0
def vX(val:List Int)(l:List (Nat×Int)):List Int:=l.foldl (λa p=>a.set p.1 p.2) val
def ka(u:U) (locals:List Int) (l0:Option Nat) (B:Bk) (s:Rs):Rs:=
 let hs:=B.ef.takeWhile (fP u)
 {s with val:=vX s.val (hs.map λv=>(v,sB u locals l0 B s.of v)),steps:=s.steps+hs.length}
def oY(B:Bk)(s:Rs):Option Nat:=if B.fin=1 then B.next[0]? else if B.fin=2 then(if s.of B.cond=0 then B.next[1]? else B.next[0]?) else none
def runM(u:U) (locals:List Int) (gw:Int) (fuel:Nat):Nat->Option Nat->Nat->Rs->Ex
 |0,_,_,_=> .stuck
 | BM+1,l0,b,s=>match u.blocks[b]? with
   |none=> .stuck
   | some B=>match nB u gw fuel (B.ef.dropWhile (fP u)) (ka u locals l0 B s)with
     | .inl e=>e
     | .inr s=>if fuel<=s.steps then .zB else if B.fin=3 then qi u {s with steps:=s.steps+1} B.state else match oY B s with
       |none=> .stuck
       |some t=>runM u locals gw fuel BM (some b) t {s with steps:=s.steps+1}
def pK(u:U)(heap:List Int):Rs:=⟨List.replicate u.ef.length 0,heap,0,0⟩
def Ex.As:Ex->Ex->Prop
 | .left n fr h,.left n' fr' h'=>n'<=n/\fr' = fr/\h' = h
 | .left _ _ _,_=>False
 |_,_=>True
section
variable{u:U}{as:Nat->Int}
structure Alike (u:U) (as:Nat->Int) (s s':Rs):Prop where
 len:s.val.length=u.ef.length
 EE:s'.val.length=(fG u as).length
 val:∀v∈fG u as,s'.of ((fG u as).idxOf v)=s.of v
 heap:s'.heap=s.heap
 steps:s'.steps<=s.steps
 polls:s'.polls=s.polls
structure Way (u:U) (as:Nat->Int) (locals:List Int) (gw:Int) (heap:List Int) (I:Nat->Nat->Rs->Prop):Prop where
 start:∀B:Bk,u.blocks[0]? =some B->I 0 (B.ef.takeWhile (fP u)).length (ka u locals none B (pK u heap))
 B4:∀(b t:Nat) (B T:Bk) (s:Rs),u.blocks[b]? =some B->u.blocks[t]? =some T->t∈B.next->I b B.ef.length s->s.val.length=u.ef.length->I t (T.ef.takeWhile (fP u)).length (ka u locals (some b) T {s with steps:=s.steps+1})
 one:∀(b k v:Nat) (x:Vl) (s a:Rs),At u v b k->u.ef[v]? =some x->fP u v=false->I b k s->s.val.length=u.ef.length->pw u gw v x s = .inr a->I b (k+1) a
 use:∀(b k w:Nat) (r:Nat) (s:Rs),I b k s->s.val.length=u.ef.length->Bn u w b k->as w=(r:Int)->s.of r=s.of w
theorem DQ{l:List Int} {i j:Nat} {x:Int} (hi:i<l.length):(l.set i x).getD j 0=if j=i then x else l.getD j 0:=by
 grind
theorem Aq(l:List (Nat×Int)):∀val:List Int,(vX val l).length=val.length:=by
 induction l with
 |nil=>exact λ_=>rfl
 | cons p l a=>
   grind[vX,LU]
theorem Az{f:Nat->Int} {j:Nat}:∀(l:List Nat) (val:List Int),(∀v∈l,v<val.length)->(vX val (l.map λv=>(v,f v))).getD j 0=if j∈l then f j else val.getD j 0
 |[],_,_=>by rfl
 | v::l,val,h=>by
   show(vX (val.set v (f v)) (l.map λv=>(v,f v))).getD j 0=_;rw[Az l _ (by simp_all),DQ (by simp_all)]
   grind
end
theorem uz{u:U} {w b:Nat} {B:Bk} (d:u.blocks[b]? =some B) (h:rh u w b):Bn u w b B.ef.length:=by
 obtain⟨c,j,a,f⟩:=h;refine⟨c,j,a,?_⟩;by_cases e:c=b
 ·subst e;obtain⟨g,i,k⟩:=a
  grind
 simp_all
section
variable{u:U}{P:Nat->Prop}{as:Nat->Int}[hP:Vu P as] (g:Gd u P)(f:Fit u as){I:Nat->Nat->Rs->Prop}{locals:List Int}{gw:Int}{heap:List Int}(W:Way u as locals gw heap I)
include g f W
theorem PA{b k w:Nat} {s s':Rs} (e:I b k s) (d:Alike u as s s') (hs:Bn u w b k) (h0:0<=as w):s'.of (nm u as w)=s.of w:=by
 obtain⟨c,j,a,_⟩:=id hs;obtain⟨r,h,i,l⟩:=VQ g f (g.jE _ _ _ a) h0;rw[l,d.val r i];exact W.use b k w r s e d.len hs h
theorem Nh{b k st:Nat} {s s':Rs} {fs:List Fm} (h:I b k s) (d:Alike u as s s') (f:st∈Hb u as) (c:u.eh[st]? =some fs) (hs:∀w∈hO fs,Bn u w b k/\0<=as w) :
  ∃fr,qi u {s with steps:=s.steps+1} st = .left (s.steps+1) fr s.heap/\qi (ic u as) {s' with steps:=s'.steps+1} ((Hb u as).idxOf st) = .left (s'.steps+1) fr s.heap:=by
 refine ⟨_,rfl,?_⟩;unfold qi;rw[Us f c,c,d.heap];simp only[Option.getD_some,List.map_map];congr 1;refine Xv λa g=>?_;have e:∀l:List Nat,(∀w∈l,w∈hO fs)->(l.map (nm u as)).map s'.of=l.map s.of:=λl i=>by
  grind[List.map_map,Xv,PA]
 show Fw.mk a.func a.pc ((a.locals.map (nm u as)).map s'.of) ((a.stack.map (nm u as)).map s'.of)=_;rw[e a.locals (by grind[hO,Xu]),e a.stack (by grind[hO,List.mem_append_right])];rfl
variable (Fh:∀(v b k:Nat)(x:Vl),At u v b k->u.ef[v]? =some x->stays as v=false->x.op≠19/\x.op≠20/\(x.op=22->∀s,I b k s->s.of x.a≠0)/\x.op≠23)
include Fh
omit g f W Fh in
theorem EG {x:Vl}:(two x.op=true->x.op≠21->x.a∈iH x/\x.b∈iH x)/\(na x.op=true->x.op≠21->x.a∈iH x):=by
 constructor
 ·intro h h1;unfold iH
  grind
 ·intro h h1;unfold iH
  grind
omit Fh in
theorem zcy {b k v:Nat} {x:Vl} {s s':Rs} (OE:At u v b k) (hx:u.ef[v]? =some x) (hh:fP u v=false) (hst:stays as v=true) (hI:I b k s) (ha:Alike u as s s') :
  (∀n fr hp,pw u gw v x s = .inl (.left n fr hp)->∃n',n'<=n/\pw (ic u as) gw ((fG u as).idxOf v) (ie u as x) s' = .inl (.left n' fr hp))/\
  (∀s1,pw u gw v x s = .inr s1->∃s1',pw (ic u as) gw ((fG u as).idxOf v) (ie u as x) s' = .inr s1'/\Alike u as s1 s1'):=by
 have h21:x.op≠21:=by grind[fP,hZ]
 have hvl:=(jP.1 hx).1;have hm:v∈fG u as:=(iU g).2 ⟨hvl,hst⟩;have eu:∀w∈iH x,s'.of (nm u as w)=s.of w:=λw hw=>PA g f W hI ha (g.DD v b k x OE hx h21 w hw) (f.use v x hx hst w hw);have ea:two x.op=true\/na x.op=true->s'.of (ie u as x).a=s.of x.a:=λh=>by
  have:(ie u as x).a=nm u as x.a:=by
   show(if _ then nm u as x.a else x.a)=_;rcases h with h|h
   ·simp_all
   ·grind
  grind[EG]
 have eb:two x.op=true->s'.of (ie u as x).b=s.of x.b:=by simp_all[ie,nm,if_pos,EG]
 have hop:=g.op v x hx;have stp:=ha.steps;have pol:=ha.polls;have hp:=ha.heap;have goH:∀(q q':List Int),q' = q->Alike u as {s with heap:=q,steps:=s.steps+1} {s' with heap:=q',steps:=s'.steps+1}:=λq q' e=>⟨ha.len,ha.EE,ha.val,e,by simp only;omega,pol⟩
 have lv:leaves x.op=true->∃fs,u.eh[x.state]? =some fs/\(ie u as x).state=(Hb u as).idxOf x.state/\x.state∈Hb u as/\∀w∈hO fs,Bn u w b k/\0<=as w:=λhl=>by
  have hs0:=g.leave v x hx hl;have hfs:=gW hs0;exact⟨_,hfs,if_pos hl,zeh g hst hx hl,λw hw=>⟨g.Gb v b k x _ OE hx hl hfs w hw,f.st v x _ hx hst hl hfs w hw⟩⟩
 unfold pw;rw[show(ie u as x).op=x.op from rfl,show(ie u as x).n=x.n from rfl];by_cases h19:x.op=19
 ·have e2:two x.op=true:=by rw[h19];rfl
  simp_all
 rw[if_neg h19,if_neg h19];by_cases h20:x.op=20
 ·have e2:two x.op=true:=by rw[h20];rfl
  rw [if_pos h20,if_pos h20];refine⟨λ_ _ _ h=>(nomatch h),λs1 h=>?_⟩;cases h;refine⟨_,rfl,goH _ _ ?_⟩;have hl:=g.putAt v x hx h20;have eC:s'.of ((ie u as x).args.getD 0 0)=s.of (x.args.getD 0 0):=by
   have:(ie u as x).args=x.args.map (nm u as):=if_pos (.inr h20);rw[this]
   match hq:x.args,hl with
   | [w],_=>
     simp_all[iH,if_neg,if_pos]
  simp_all
 rw[if_neg h20,if_neg h20];by_cases h22:x.op=22
 ·have e1:na x.op=true:=by rw[h22];rfl
  rw[if_pos h22,if_pos h22,ea (.inr e1)];obtain⟨fs,l1,l2,l3,l4⟩:=lv (by rw[h22];rfl);by_cases hz:s.of x.a=0
  ·rw[if_pos hz,if_pos hz];refine⟨λn fr q h=>?_,λ_ h=>(nomatch h)⟩;obtain⟨fr',g1,g2⟩:=Nh g f W hI ha l3 l1 l4
   grind
  simp_all
 rw[if_neg h22,if_neg h22];by_cases h23:x.op=23
 ·rw [if_pos h23,if_pos h23,pol];obtain⟨fs,l1,l2,l3,l4⟩:=lv (by rw[h23];rfl);by_cases hz:0<=gw/\(s.polls:Int)=gw
  ·rw[if_pos hz,if_pos hz];refine⟨λn fr q h=>?_,λ_ h=>(nomatch h)⟩;obtain⟨fr',g1,g2⟩:=Nh g f W hI ha l3 l1 l4
   grind
  ·rw[if_neg hz,if_neg hz];refine⟨λ_ _ _ h=>(nomatch h),λs1 h=>?_⟩;cases h;exact⟨_,rfl,ha.len,ha.EE,ha.val,hp,by simp only;omega,by simp only⟩
 rw [if_neg h23,if_neg h23];refine⟨λ_ _ _ h=>(nomatch h),λs1 h=>?_⟩;cases h;have eV:E9 (ie u as x) s'.of s'.heap=E9 x s.of s.heap:=by
  have h1:x.op≠1:=by grind[fP,hZ]
  unfold E9;rw[show(ie u as x).op=x.op from rfl,show(ie u as x).n=x.n from rfl,hp];have ht:x.op≠2->two x.op=true\/na x.op=true:=λh2=>by
   unfold two na;simp only[PV,xg,AQ,HR];omega
  by_cases h2:x.op=2
  ·rw[if_pos h2,if_pos h2]
  rw [if_neg h2,if_neg h2,ea (ht h2)];have htw:x.op≠15->x.op≠16->x.op≠17->¬(x.op=8\/x.op=9)->two x.op=true:=λa1 a2 a3 a4=>by
   unfold two;simp only[PV,xg,AQ,HR];omega
  by_cases h15:x.op=15
  ·rw[if_pos h15,if_pos h15]
  rw[if_neg h15,if_neg h15];by_cases h16:x.op=16
  ·rw[if_pos h16,if_pos h16]
  rw[if_neg h16,if_neg h16];by_cases h17:x.op=17
  ·rw[if_pos h17,if_pos h17]
  rw[if_neg h17,if_neg h17];by_cases h18:x.op=18
  ·simp_all
  rw[if_neg h18,if_neg h18];by_cases h89:x.op=8\/x.op=9
  ·rw[if_pos h89,if_pos h89]
  ·simp_all
 rw[eV];refine⟨_,rfl,by simp only[LU];exact ha.len,by simp only[LU];exact ha.EE,λw hw=>?_,hp,by simp only;omega,pol⟩;show(s'.val.set _ _).getD _ 0=(s.val.set _ _).getD _ 0;rw[DQ (by rw[ha.EE];exact wBo hm),DQ (by rw[ha.len];exact hvl)];by_cases e:w=v
 ·subst e;rw[if_pos rfl,if_pos rfl]
 ·rw[if_neg e,if_neg λh=>e (QQ hw hm h)];exact ha.val w hw
theorem Vv{fuel b:Nat} {B:Bk} (A:u.blocks[b]? =some B):∀(l:List Nat) (k:Nat) (s s':Rs),B.ef.drop k=l->k+l.length=B.ef.length->(∀v∈l,fP u v=false)->I b k s->Alike u as s s'->
  (∀n fr hp,nB u gw fuel l s = .inl (.left n fr hp)->∃q,q<=n/\nB (ic u as) gw fuel ((l.filter (stays as)).map (fG u as).idxOf) s' = .inl (.left q fr hp))/\
  (∀c,nB u gw fuel l s = .inr c->∃a,nB (ic u as) gw fuel ((l.filter (stays as)).map (fG u as).idxOf) s' = .inr a/\Alike u as c a/\I b B.ef.length c)
 | [],k,s,s',hl,hk,_,hI,ha=>by
   refine⟨λn fr hp h=>(nomatch h),λc h=>?_⟩;cases h;have hk:k=B.ef.length:=by simpa using hk
   subst hk
   exact⟨s',rfl,ha,hI⟩
 | v ::l,k,s,s',hl,hk,hh,hI,ha=>by
   have o:k<B.ef.length:=by rw[QN]at hk;omega
   rw[Xx o]at hl;obtain⟨hv,r⟩:=List.cons.inj hl;have d:At u v b k:=⟨B,A,by rw[<-hv];exact gW o⟩
   have p:=g.jE _ _ _ d;have j:=gW p;generalize u.ef[v]=x at j;have i:=hh v (by simp);have t:=λ(c a:Rs) (y:I b (k+1) c) (z:Alike u as c a)=>Vv A (fuel:=fuel) l (k+1) c a r (by grind) (by simp_all) y z;show(∀n fr hp,(if fuel<=s.steps then _ else _)=_->_)/\(∀c,(if fuel<=s.steps then _ else _)=_->_);by_cases hf:fuel<=s.steps
   ·simp_all
   rw[if_neg hf,j];simp only;have C:=ha.steps
   cases hst:stays as v with
   | true=>
     have D:v∈fG u as:=by grind[iU]
     have e:((v::l).filter (stays as)).map (fG u as).idxOf=(fG u as).idxOf v::(l.filter (stays as)).map (fG u as).idxOf:=by rw[wB0,if_pos hst];rfl
     rw[e];show(∀n fr hp,_->∃q,q<=n/\(if fuel<=s'.steps then _ else _)=_)/\(∀c,_->∃a,(if fuel<=s'.steps then _ else _)=_/\_);rw[if_neg (by omega),Qn (Hj D) j];simp only;obtain⟨K,E⟩:=zcy g f W d j i hst hI ha
     cases hq:pw u gw v x s with
     | inl e=>
       grind
     | inr c=>
       obtain⟨a,F,G⟩:=E _ hq;rw[F]
       exact t c a (W.one b k v x s c d j i hI ha.len hq) G
   | false=>
     have e:((v::l).filter (stays as)).map (fG u as).idxOf=(l.filter (stays as)).map (fG u as).idxOf:=by rw[wB0,if_neg (by simp_all)]
     rw[e];obtain⟨d1,d2,d3,H⟩:=Fh v b k x d j hst;by_cases m:x.op=22
     ·have hq:pw u gw v x s = .inr {s with steps:=s.steps+1}:=by
        unfold pw;rw[if_neg d1,if_neg d2,if_pos m,if_neg (d3 m s hI)]
      rw[hq];exact t _ s' (W.one b k v x s _ d j i hI ha.len hq) ⟨ha.len,ha.EE,ha.val,ha.heap,by simp only;omega,ha.polls⟩
     have hq:pw u gw v x s = .inr {s with val:=s.val.set v (E9 x s.of s.heap),steps:=s.steps+1}:=by
       unfold pw;rw[if_neg d1,if_neg d2,if_neg m,if_neg H]
     rw[hq];refine t _ s' (W.one b k v x s _ d j i hI ha.len hq) ⟨by simp only[LU];exact ha.len,ha.EE,λw J=>?_,ha.heap,by grind,ha.polls⟩;rw[ha.val w J];show _=(s.val.set _ _).getD _ 0;rw[DQ (by rw[ha.len];exact p),if_neg (by grind[iU])];rfl
omit f W Fh in
theorem E0 {b:Nat} {B:Bk} (hB:u.blocks[b]? =some B):∀v∈B.ef.dropWhile (fP u),fP u v=false:=by
 have e:=wAt (p:=fP u) (l:=B.ef)
 cases hd:B.ef.dropWhile (fP u)with
 |nil=>simp_all
 | cons w r=>
   have hw:fP u w=false:=by
     have:=List.head?_dropWhile_not (fP u) B.ef;rw[hd]at this;simpa using this
   intro v hv
   cases hq:fP u v with
   |false=>rfl
   | true=>
     exfalso;rw[hd]at e;generalize B.ef.takeWhile (fP u)=hs at e;obtain⟨n,hn⟩:=mQ.1 hv;have a1:At u v b (hs.length+n):=⟨B,hB,by rw[<-e,Yq (by omega)];rw[wBe];exact hn⟩
     have a2:At u w b hs.length:=⟨B,hB,by rw[<-e,Yq (by omega),Nat.sub_self];rfl⟩
     have hx:=gW (g.jE _ _ _ a1);have hy:=gW (g.jE _ _ _ a2)
     grind[fP,QJ]
omit g f W Fh in
theorem K3 {p:Nat->Bool} {x:Nat}:∀{l:List Nat},x∈l.takeWhile p->p x=true
 |[],h=>by cases h
 | a ::l,h=>by
   rw[List.takeWhile_cons]at h;split at h
   ·rename_i ha
    rcases OC.1 h with rfl|h
    ·exact ha
    ·exact K3 h
   ·cases h
omit g f W Fh in
theorem Io {p:Nat->Bool}:∀{a b:List Nat},(∀x∈a,p x=true)->(∀x∈b,p x=false)->(a++b).takeWhile p=a/\(a++b).dropWhile p=b
 | [],b,_,hb=>by
   cases b <;> simp_all
 | x::a,b,ha,hb=>by
   obtain⟨h1,h2⟩:=Io (a:=a) (b:=b) (by simp_all) hb
   simp_all
omit f W Fh in
theorem YM {v:Nat} (hv:v∈fG u as):fP (ic u as) ((fG u as).idxOf v)=fP u v:=by
 have hx:=gW ((iU g).1 hv).1;unfold fP;rw[Qn (Hj hv) hx,hx];rfl
omit f W Fh in
theorem Vm {b:Nat} {B:Bk} (hB:u.blocks[b]? =some B) :
  (mf u as B).ef.takeWhile (fP (ic u as))=((B.ef.takeWhile (fP u)).filter (stays as)).map (fG u as).idxOf/\(mf u as B).ef.dropWhile (fP (ic u as))=((B.ef.dropWhile (fP u)).filter (stays as)).map (fG u as).idxOf:=by
 have e:(mf u as B).ef=((B.ef.takeWhile (fP u)).filter (stays as)).map (fG u as).idxOf++((B.ef.dropWhile (fP u)).filter (stays as)).map (fG u as).idxOf:=by
  rw[<-Ox,<-wB3,wAt];rfl
 have Oa:∀v∈B.ef,stays as v=true->v∈fG u as:=λv hv hs=>by
  obtain⟨k,hk⟩:=mQ.1 hv;exact(iU g).2 ⟨g.jE v b k ⟨B,hB,hk⟩,hs⟩
 rw[e];refine Io (λx hx=>?_) λx hx=>?_
 ·obtain⟨v,hv,rfl⟩:=LB.1 hx
  grind[YM,wBL,K3]
 ·obtain⟨v,hv,rfl⟩:=LB.1 hx
  grind[YM,List.dropWhile_subset,E0]
omit f W Fh in
theorem XE {b:Nat} {B:Bk} {l0:Option Nat} {s s':Rs} (hB:u.blocks[b]? =some B) (ha:Alike u as s s')
  (zfV:∀(v k:Nat) (x:Vl) (j p a:Nat),At u v b k->stays as v=true->u.ef[v]? =some x->x.op=21->l0=some p->B.eQ[j]? =some p->x.args[j]? =some a->s'.of (nm u as a)=s.of a) :
  Alike u as (ka u locals l0 B s) (ka (ic u as) locals l0 (mf u as B) s'):=by
 obtain ⟨e1,_⟩:=Vm (as:=as) g hB;have WE:∀v∈B.ef.takeWhile (fP u),∃k,At u v b k:=λv hv=>by
  obtain⟨k,hk⟩:=mQ.1 (wBL _ hv);exact⟨k,B,hB,hk⟩
 have hw:∀v∈B.ef.takeWhile (fP u),stays as v=true->sB (ic u as) locals l0 (mf u as B) s'.of ((fG u as).idxOf v)=sB u locals l0 B s.of v:=by
  intro v hv hs;obtain⟨k,OE⟩:=WE v hv;have hvl:=g.jE _ _ _ OE;have hx:=gW hvl;generalize u.ef[v]=x at hx;have hm:v∈fG u as:=by grind[iU]
  unfold sB;rw[Qn (Hj hm) hx,hx];show(if x.op=1 then _ else _)=(if x.op=1 then _ else _)
  by_cases h1:x.op=1
  ·rw[if_pos h1,if_pos h1];rfl
  rw [if_neg h1,if_neg h1];have h21:x.op=21:=by
   have:=K3 hv;unfold fP at this;rw[hx]at this;unfold hZ at this;rw[PV,HR,HR]at this;omega
  cases hf:l0 with
  |none=>rfl
  | some p=>
    show (match B.eQ.findIdx? (·== p)with
      |some j=>s'.of ((ie u as x).args.getD j 0)
      |none=>0)=(match B.eQ.findIdx? (·== p)with
      |some j=>s.of (x.args.getD j 0)
      |none=>0)
    cases hj:B.eQ.findIdx? (·== p)with
    |none=>rfl
    | some j=>
      simp only;obtain⟨hjl,hjp,_⟩:=wBV.1 hj;rw[HR]at hjp;have hpl:=(g.CJ v b k x B OE hx h21 hB).2;have hja:x.args[j]? =some x.args[j]:=by simp_all
      have e:(ie u as x).args=x.args.map (nm u as):=if_pos (.inl h21)
      grind
 unfold ka;simp only;rw[e1];have hv0:∀v∈B.ef.takeWhile (fP u),v<s.val.length:=λv hv=>by
  obtain⟨k,OE⟩:=WE v hv;rw[ha.len];exact g.jE _ _ _ OE
 refine⟨by simp only[Aq];exact ha.len,by simp only[Aq];exact ha.EE,λv hv=>?_,ha.heap,?_,ha.polls⟩
 ·show (vX s'.val _).getD _ 0=(vX s.val _).getD _ 0;rw[Az _ _ hv0,Az _ _ λw hw=>by
   obtain⟨v',hv',rfl⟩:=LB.1 hw;obtain⟨h1,h2⟩:=Ks.1 hv';obtain⟨k,OE⟩:=WE v' h1;rw[ha.EE];exact wBo ((iU g).2 ⟨g.jE _ _ _ OE,h2⟩)]
  by_cases hm:v∈B.ef.takeWhile (fP u)
  ·rw[if_pos hm,if_pos (LB.2 ⟨v,by grind[iU],rfl⟩)]
   grind[iU]
  ·rw [if_neg hm,if_neg λh=>by
    obtain⟨v',hv',e⟩:=LB.1 h;obtain⟨h1,h2⟩:=Ks.1 hv';obtain⟨k,OE⟩:=WE v' h1;obtain rfl:=QQ ((iU g).2 ⟨g.jE _ _ _ OE,h2⟩) hv e
    simp_all]
   exact ha.val v hv
 ·simp only[DL];have:=X6 (stays as) (B.ef.takeWhile (fP u));have:=ha.steps;omega
theorem XG{fuel:Nat}:∀(BM:Nat) (l0:Option Nat) (b:Nat) (B:Bk) (s s':Rs),u.blocks[b]? =some B->Alike u as s s'->
  ((l0=none/\b=0/\s=pK u heap)\/∃(p:Nat) (P:Bk) (o i:Rs),l0=some p/\u.blocks[p]? =some P/\b∈P.next/\I p P.ef.length o/\Alike u as o i/\s = {o with steps:=o.steps+1}/\s' = {i with steps:=i.steps+1})->
  (runM u locals gw fuel BM l0 b s).As (runM (ic u as) locals gw fuel BM l0 b s')
 |0,_,_,_,_,_,_,_,_=>trivial
 | BM+1,l0,b,B,s,s',hB,ha,he=>by
   have R:=(jP.1 hB).1;have E:Alike u as (ka u locals l0 B s) (ka (ic u as) locals l0 (mf u as B) s'):=by
     refine XE g hB ha λv k x j p a F hs N G A hp hq=>?_;rcases he with⟨z,_⟩|⟨O,P,o,i,z,h,C,q,H,rfl,rfl⟩
     ·simp_all
     ·rw[z]at A
      cases A;exact PA g f W (s:=o) (s':=i) q H (uz h (g.Dn v b k x B F N G hB j a p hq hp)) (f.use v x N hs a (by
        unfold iH
        grind))
   have J:I b (B.ef.takeWhile (fP u)).length (ka u locals l0 B s):=by
     rcases he with⟨rfl,rfl,rfl⟩|⟨O,P,o,i,rfl,h,C,q,H,rfl,rfl⟩
     ·exact W.start B hB
     ·exact W.B4 O b P B o h hB C q H.len
   obtain ⟨_,S⟩:=Vm (as:=as) g hB;have hlen:(B.ef.takeWhile (fP u)).length+(B.ef.dropWhile (fP u)).length=B.ef.length:=by
     rw[<-Ji,wAt]
   have K:B.ef.drop (B.ef.takeWhile (fP u)).length=B.ef.dropWhile (fP u):=by
     have e:=wAt (p:=fP u) (l:=B.ef);generalize B.ef.takeWhile (fP u)=a at e⊢;generalize B.ef.dropWhile (fP u)=d at e⊢;rw[<-e];exact List.drop_left' rfl
   obtain⟨r1,T⟩:=Vv g f W Fh (fuel:=fuel) hB _ _ _ _ K hlen (E0 g hB) J E;unfold runM;rw[hB,UJ hB];simp only;rw[S]
   cases hq:nB u gw fuel (B.ef.dropWhile (fP u)) (ka u locals l0 B s)with
   | inl e=>
     simp only
     cases e with
     |zB=>exact trivial
     |stuck=>exact trivial
     | left n fr hp=>
       obtain⟨Z,z,h⟩:=r1 n fr hp hq;rw[h]
       exact⟨z,rfl,rfl⟩
   | inr D=>
     obtain⟨r,z,h,C⟩:=T D hq;rw[z];simp only;have U:=h.steps;by_cases A:fuel<=D.steps
     ·rw[if_pos A];exact trivial
     rw[if_neg A,if_neg (show ¬fuel<=r.steps by omega)];show Ex.As (if B.fin=3 then _ else _) (if B.fin=3 then _ else _);by_cases c:B.fin=3
     ·rw[if_pos c,if_pos c]
      have L:B.state<u.eh.length:=by
        rcases g.fin b B hB with⟨q,_⟩|⟨q,_⟩|⟨_,_,q⟩
        ·omega
        ·omega
        ·exact q
      have y:=gW L;obtain⟨fr,V,X⟩:=Nh g f W C h (zc7 hB c) y λw Q=>⟨uz hB (g.Gc b B _ hB c y w Q),f.out b B _ hB c y w Q⟩
      rw[V,show(mf u as B).state=(Hb u as).idxOf B.state from if_pos c,X];exact⟨by omega,rfl,rfl⟩
     rw[if_neg c,if_neg c];have Y:oY (mf u as B) r=oY B D:=by
       unfold oY;show(if B.fin=1 then B.next[0]? else if B.fin=2 then(if r.of (if B.fin=2 then nm u as B.cond else B.cond)=0 then B.next[1]? else B.next[0]?) else none)=_;by_cases m:B.fin=2
       ·rw[if_pos m,if_pos m,if_pos m,PA g f W C h (uz hB (g.Dk b B hB m)) (f.cond b B hB m)]
       ·simp_all
     rw[Y]
     cases hn:oY B D with
     |none=>exact trivial
     | some t=>
       simp only;have ht:t∈B.next:=by
         unfold oY at hn
         repeat' split at hn
         all_goals grind
       have M:=g.nx b t (by grind[next]);exact XG BM (some b) t _ _ _ (gW M) ⟨h.len,h.EE,h.val,h.heap,by simp_all,h.polls⟩ (by grind)
theorem za5{fuel:Nat} (BM:Nat):(runM u locals gw fuel BM none 0 (pK u heap)).As (runM (ic u as) locals gw fuel BM none 0 (pK (ic u as) heap)):=by
 have a:(ic u as).ef.length=(fG u as).length:=by
  show((fG u as).map _).length=_;rw[DL]
 refine XG g f W Fh BM none 0 _ _ _ (gW (show 0<u.blocks.length from g.KC)) ⟨by simp[pK],by grind[pK],λv _=>?_,rfl,iZ _,rfl⟩ (by simp_all);have e:∀n m,(List.replicate n (0:Int)).getD m 0=0:=by grind
 exact(e _ _).trans (e _ _).symm
end
