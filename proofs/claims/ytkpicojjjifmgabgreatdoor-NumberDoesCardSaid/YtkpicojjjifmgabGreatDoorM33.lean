/- Parts. -/
import Derived.Test.YtkpicojjjifmgabGreatDoorM13
set_option maxHeartbeats 4000000
namespace Go.Proofs.YtkpicojjjifmgabGreatDoor.Un
open Dm
def mw(l:List Nat):List Nat:=l.foldl (λa s=>if s∈a then a else a++[s]) []
theorem zi(l:List Nat) (s:Nat):mw (l++[s])=if s∈mw l then mw l else mw l++[s]:=by
 grind[mw]
theorem N4{P:List Nat->Prop} (h0:P []) (hs:∀l s,P l->P (l++[s])) (l:List Nat):P l:=by
 have:∀r:List Nat,P r.reverse:=λr=>by
  induction r <;> grind
 rw[<-List.reverse_reverse l]
 grind
theorem vt(l:List Nat):∀x,x∈mw l↔x∈l:=by
 induction l using N4 with
 |h0=>exact λ_=>Iff.rfl
 | hs l s a=>
   grind[zi,QJ,id]
theorem Rc(l:List Nat):(mw l).Nodup:=by
 induction l using N4 with
 |h0=>exact List.nodup_nil
 | hs l s a=>
   grind[zi,ZL,List.nodup_cons,List.nodup_nil,QJ]
theorem HW{l:List Nat} {x:Nat} (h:x∈l):l[l.idxOf x]? =some x:=by
 grind
theorem yZ{l:List Nat} (a:l.Nodup) {i j x:Nat} (hi:l[i]? =some x) (b:l[j]? =some x):i=j:=by
 grind[ki,wA5,wBi,absurd]
theorem zcx{l:List Nat}(a:l.Nodup){i x:Nat}(h:l[i]? =some x):l.idxOf x=i:=by grind
theorem Vi{l:List Nat} {x y:Nat} (hx:x∈l) (a:y∈l) (h:l.idxOf x=l.idxOf y):x=y:=by
 grind[HW,Option.some.inj]
theorem Qy{p:Nat->Bool}:∀{l:List Nat} {k v:Nat},l[k]? =some v->p v=true->(l.filter p)[((l.take k).filter p).length]? =some v
 |[],k,v,h,_=>by simp_all
 | a::l,0,v,h,hp=>by
   simp_all
 | a::l,k+1,v,h,hp=>by
   have b:=Qy (l:=l) (k:=k) (by simp_all) hp
   grind
theorem zaw{p:Nat->Bool} {l:List Nat} {j k w:Nat} (h:l[j]? =some w) (hp:p w=true) (a:j<k):((l.take j).filter p).length<((l.take k).filter p).length:=by
 obtain ⟨b,rfl⟩:=ki.1 h;have e:l.take k=l.take j++l[j]::((l.take k).drop (j+1)):=by
  conv=>lhs;rw[<-ZI j (l.take k)]
  rw[List.take_take,wBl (by omega)];congr 1;rw[ZH (by grind),List.getElem_take]
 grind
section
variable (u:U)(as:Nat->Int)
def stays(v:Nat):Bool:=as v == (v:Int)
def fN:List Nat:=u.blocks.flatMap λB=>B.ej.filter (stays as)
def yI:Nat->Nat->Nat
 |0,v=>v
 |k+1,v=>if 0<=as v/\as v≠(v:Int) then yI k (as v).toNat else v
def nm(v:Nat):Nat:=if yI as (u.ej.length+1) v∈fN u as then(fN u as).idxOf (yI as (u.ej.length+1) v) else 0
def K6:List Nat:=(fN u as).filterMap (λn=>match u.ej[n]? with
  |some x=>if leaves x.op=true then some x.state else none
  |none=>none)++u.blocks.filterMap λB=>if B.fin=3 then some B.state else none
def HO:List Nat:=mw (K6 u as)
def iF(x:Vl):Vl where
 op:=x.op
 a:=if 0<(if two x.op=true then 2 else if nq x.op=true then 1 else 0) then nm u as x.a else x.a
 b:=if two x.op=true then nm u as x.b else x.b
 n:=x.n
 args:=if x.op=21\/x.op=20 then x.args.map (nm u as) else x.args
 state:=if leaves x.op=true then(HO u as).idxOf x.state else x.state
def nQ(B:Bk):Bk where
 ej:=(B.ej.filter (stays as)).map (fN u as).idxOf
 fin:=B.fin
 cond:=if B.fin=2 then nm u as B.cond else B.cond
 next:=B.next
 fi:=B.fi
 state:=if B.fin=3 then(HO u as).idxOf B.state else B.state
def Wf(f:Fm):Fm:=⟨f.func,f.pc,f.locals.map (nm u as),f.stack.map (nm u as)⟩
def jo:U where
 func:=u.func
 pc:=u.pc
 ej:=(fN u as).map λn=>iF u as (u.ej.getD n ⟨0,0,0,0,[],0⟩)
 blocks:=u.blocks.map (nQ u as)
 ev:=(HO u as).map λs=>(u.ev.getD s []).map (Wf u as)
end
def zac(u:U):Prop:=∀(v:Nat) (b:Nat) (k:Nat) (a:Nat) (k':Nat),At u v b k->At u v a k'->b=a/\k=k'
theorem Js{u:U} (c:zac u) {b:Nat} {B:Bk} (a:u.blocks[b]? =some B):B.ej.Nodup:=by
 refine wA5.2 λi j hi d f e=>?_;have g:At u B.ej[i] b i:=⟨B,a,iy hi⟩
 have h:At u B.ej[i] b j:=⟨B,a,by rw[e];exact iy d⟩
 have:=(c _ _ _ _ _ g h).2;omega
theorem AB{u:U} {as:Nat->Int} (g:zac u):(fN u as).Nodup:=by
 unfold fN;have b:∀(l:List Bk) (i:Nat),(∀k B,l[k]? =some B->u.blocks[i+k]? =some B)->(l.flatMap λB=>B.ej.filter (stays as)).Nodup:=by
  intro l
  induction l with
  |nil=>simp_all
  | cons B l j=>
    intro i h;rw[List.flatMap_cons,ZL];have m:u.blocks[i]? =some B:=h 0 B rfl;refine⟨by grind[Js],j (i+1) λk C f=>by rw[show i+1+k=i+(k+1) by omega];simp_all,λa n c hc e=>?_⟩;subst e;obtain⟨C,o,d⟩:=Xr.1 hc;obtain⟨k,f⟩:=oY.1 o;obtain⟨p,q⟩:=oY.1 (Rl.1 n).1;obtain⟨r,s⟩:=oY.1 (Rl.1 d).1;have:=(g a i p (i+(k+1)) r ⟨B,m,q⟩ ⟨C,h (k+1) C (by simpa using f),s⟩).1;omega
 exact b u.blocks 0 (by simp_all)
theorem Pt.short{nx:Nat->List Nat} {x:Nat}:∀{b l},Pt nx b l->x∈l->x≠b->∃a,Pt nx x a/\a.length<l.length
 | _,_,.nil,h,hn=>by
   simp_all
 | _,_,.step (p:=p) (b:=b) (l:=l) h e,hx,hn=>by
   rcases IS.1 hx with rfl|hx
   ·omega
   ·by_cases hp:x=p
    ·subst hp
     exact⟨l,h,by simp⟩
    ·obtain⟨a,c,d⟩:=Pt.short h hx hp
     exact⟨a,c,by simp;omega⟩
theorem o0.W6{nx:Nat->List Nat} {a b:Nat} (c:o0 nx a b) (d:o0 nx b a) {l:List Nat} (e:Pt nx b l):a=b:=by
 have f:∀n (l:List Nat),l.length<=n->(Pt nx b l->a≠b->False)/\(Pt nx a l->a≠b->False):=by
  intro n
  induction n with
  | zero=>
    intro l e;have:l=[]:=by simp_all
    subst this
    exact⟨λh _=>(nomatch h),λh _=>(nomatch h)⟩
  | succ n m=>
    intro l e;refine⟨λh g=>?_,λh g=>?_⟩
    ·obtain⟨i,j,k⟩:=h.short (c l h) g
     grind
    ·obtain⟨i,j,k⟩:=h.short (d l h) g.symm
     grind
 by_cases h:a=b
 ·exact h
 ·exact((f l.length l (jO _)).1 e h).elim
theorem o0.trans{nx:Nat->List Nat} {a b c:Nat} (f:o0 nx a b) (i:o0 nx b c):o0 nx a c:=λl g=>by
 have d:∀{y l},Pt nx y l->b∈l->a∈l:=by
  intro y l hp
  induction hp with
  | nil=>
    intro hb;obtain rfl:b=0:=by simp_all
    exact f _ .nil
  | step h e j=>
    intro hb;rcases IS.1 hb with rfl|hb
    ·exact f _ (.step h e)
    simp_all
 exact d g (i l g)
structure Fit (u:U) (as:Nat->Int):Prop where
 root:∀v,v<u.ej.length->0<=as v->∃w:Nat,as v=(w:Int)/\w<u.ej.length/\as w=(w:Int)
 up:∀(v w b k:Nat),as v=(w:Int)->At u v b k->∃c j,At u w c j/\(c=b/\j<=k\/c≠b/\o0 (next u) c b)
 zcG:∀(v w:Nat),as v=(w:Int)->vD u v->vD u w
 use:∀(v:Nat) (x:Vl),u.ej[v]? =some x->stays as v=true->∀w∈hK x,0<=as w
 st:∀(v:Nat) (x:Vl) (fs:List Fm),u.ej[v]? =some x->stays as v=true->leaves x.op=true->u.ev[x.state]? =some fs->∀w∈ik fs,0<=as w
 cond:∀(b:Nat) (B:Bk),u.blocks[b]? =some B->B.fin=2->0<=as B.cond
 out:∀(b:Nat) (B:Bk) (fs:List Fm),u.blocks[b]? =some B->B.fin=3->u.ev[B.state]? =some fs->∀w∈ik fs,0<=as w
class V1 (P:Nat->Prop) (as:Nat->Int):Prop where
 h:∀v,stays as v=true->P v
instance (as:Nat->Int):V1 (λ_=>True) as:=⟨λ_ _=>trivial⟩
instance (as:Nat->Int):V1 (λv=>stays as v=true) as:=⟨λ_ h=>h⟩
section
variable{u:U}{P:Nat->Prop}{as:Nat->Int}[hP:V1 P as] (g:Gd u P)(f:Fit u as)
include g
theorem jR{v:Nat}:v∈fN u as↔v<u.ej.length/\stays as v=true:=by
 unfold fN;rw[Xr];constructor
 ·rintro⟨B,e,hv⟩;obtain⟨a,c⟩:=Rl.1 hv;obtain⟨b,hb⟩:=oY.1 e;obtain⟨k,d⟩:=oY.1 a;exact⟨g.ko v b k ⟨B,hb,d⟩,c⟩
 ·rintro⟨a,c⟩;obtain⟨b,k,B,hb,d⟩:=g.Ef v a (hP.h v c)
  grind
theorem yX{b:Nat}{B:Bk}(a:u.blocks[b]? =some B):B.ej.Nodup:=Js g.FQ a
omit hP in
theorem Hi:(fN u as).Nodup:=AB g.FQ
omit g in
include f in
theorem zam {v:Nat} (hv:v<u.ej.length) (h0:0<=as v):∃w:Nat,yI as (u.ej.length+1) v=w/\as v=(w:Int)/\w<u.ej.length/\as w=(w:Int):=by
 obtain⟨w,h1,h2,h3⟩:=f.root v hv h0;refine⟨w,?_,h1,h2,h3⟩;unfold yI;split
 ·rename_i h;rw[h1];show yI as u.ej.length w=w;cases u.ej.length <;> simp_all[yI,if_neg]
 omega
include f
theorem U9{v:Nat} (hv:v<u.ej.length) (h0:0<=as v):∃w:Nat,as v=(w:Int)/\w∈fN u as/\nm u as v=(fN u as).idxOf w:=by
 obtain⟨w,d,a,b,e⟩:=zam f hv h0;have c:w∈fN u as:=(jR g).2 ⟨b,by simp_all[stays]⟩;exact⟨w,a,c,by simp_all[nm,if_pos]⟩
omit f g
theorem Re{i n:Nat} {x:Vl} (hi:(fN u as)[i]? =some n) (hx:u.ej[n]? =some x):(jo u as).ej[i]? =some (iF u as x):=by
 show((fN u as).map _)[i]? =_
 simp_all
theorem Jk(g:Gd u P) {i:Nat} {y:Vl} (h:(jo u as).ej[i]? =some y):∃n x,(fN u as)[i]? =some n/\u.ej[n]? =some x/\y=iF u as x/\stays as n=true:=by
 have h:((fN u as).map _)[i]? =some y:=h;rw[Dn]at h
 cases hn:(fN u as)[i]? with
 |none=>simp_all
 | some n=>
   obtain⟨a,b⟩:=(jR g).1 (DG hn)
   simp_all
theorem Uz{b:Nat} {B:Bk} (a:u.blocks[b]? =some B):(jo u as).blocks[b]? =some (nQ u as B):=by
 show(u.blocks.map _)[b]? =_
 simp_all
theorem GJ{b:Nat} {a:Bk} (h:(jo u as).blocks[b]? =some a):∃B,u.blocks[b]? =some B/\a=nQ u as B:=by
 have h:(u.blocks.map _)[b]? =some a:=h
 grind
theorem XT(b:Nat):next (jo u as) b=next u b:=by
 unfold next
 cases hb:u.blocks[b]? with
 | none=>
   grind[jo]
 |some B=>rw[Uz hb];rfl
theorem Qe:next (jo u as)=next u:=funext XT
theorem L3{h:Bk->Bk} (a:∀B,(h B).next=B.next) (b:Nat):∀(l:List Bk) (i:Nat),mN (l.map h) i b=mN l i b
 |[],_=>rfl
 | B::l,i=>by
   show((h B).next.filter (·= b)).map (λ_=>i)++mN (l.map h) (i+1) b=_;rw[a,L3 a b l];rfl
theorem QW(b:Nat):ahead (jo u as) b=ahead u b:=L3 (h:=nQ u as) (λ_=>rfl) b u.blocks 0
def pk(u:U) (as:Nat->Int) (b k:Nat):Nat:=match u.blocks[b]? with
 |some B=>((B.ej.take k).filter (stays as)).length
 |none=>0
theorem zc4{v b k:Nat} (h:At u v b k) (hs:stays as v=true):At (jo u as) ((fN u as).idxOf v) b (pk u as b k):=by
 obtain⟨B,a,hv⟩:=h;refine⟨_,Uz a,?_⟩;show((B.ej.filter (stays as)).map _)[pk u as b k]? =_
 grind[pk,Qy]
theorem zbM{v b j k:Nat} (h:At u v b j) (hs:stays as v=true) (a:j<k):pk u as b j<pk u as b k:=by
 obtain⟨B,c,hv⟩:=h
 simp_all[pk,zaw]
theorem Ku(g:Gd u P) {i b k:Nat} (h:At (jo u as) i b k):∃v j,At u v b j/\stays as v=true/\i=(fN u as).idxOf v/\k=pk u as b j/\(fN u as)[i]? =some v:=by
 obtain⟨m,c,hi⟩:=h;obtain⟨B,e,rfl⟩:=GJ c;have hi:((B.ej.filter (stays as)).map _)[k]? =some i:=hi;rw[Dn]at hi
 cases hv:(B.ej.filter (stays as))[k]? with
 |none=>simp_all
 | some v=>
   rw[hv]at hi;obtain rfl:(fN u as).idxOf v=i:=Option.some.inj hi;obtain⟨l,d⟩:=Rl.1 (DG hv);obtain⟨j,f⟩:=oY.1 l;have a:At u v b j:=⟨B,e,f⟩
   refine⟨v,j,a,d,rfl,?_,HW ((jR g).2 ⟨g.ko _ _ _ a,d⟩)⟩;unfold pk;rw[e];exact yZ (by grind[yX]) hv (Qy f d)
theorem Zi(x:Vl):hK (iF u as x)=(hK x).map (nm u as):=by
 unfold hK;show(if x.op=21 then(iF u as x).args else if x.op=20 then(iF u as x).a::(iF u as x).b::(iF u as x).args.take 1 else if two x.op=true then[(iF u as x).a,(iF u as x).b] else if nq x.op=true then[(iF u as x).a] else[])=_;unfold iF;simp only;by_cases c:x.op=21
 ·simp[c]
 ·rw[if_neg c,if_neg c];by_cases d:x.op=20
  ·simp_all[if_pos,two,List.map_take]
  grind
include g f
theorem MR{w:Nat} (h:vD u w) (h0:0<=as w):vD (jo u as) (nm u as w):=by
 obtain⟨x,hx,_⟩:=id h;obtain⟨r,a,b,c⟩:=U9 g f (by grind) h0;obtain⟨y,d,e⟩:=f.zcG w r a h;exact⟨iF u as y,by rw[c];exact Re (HW b) d,e⟩
theorem Zu{w b k:Nat} (h:zE u w b k) (hb:b<u.blocks.length) (h0:0<=as w):zE (jo u as) (nm u as w) b (pk u as b k):=by
 obtain⟨c,j,d,hc⟩:=h;obtain⟨r,s,t,y⟩:=U9 g f (g.ko _ _ _ d) h0;obtain⟨c',v,i,m⟩:=f.up w r c j s d;have hs:=((jR g).1 t).2;refine⟨c',pk u as c' v,by grind[zc4],?_⟩;rw[Qe];rcases hc with⟨rfl,z⟩|⟨o,q⟩
 ·rcases m with⟨rfl,p⟩|⟨n,a⟩
  ·exact .inl ⟨rfl,zbM i hs (by omega)⟩
  simp_all
 ·rcases m with⟨rfl,p⟩|⟨n,a⟩
  ·simp_all
  ·refine .inr ⟨λe=>?_,a.trans q⟩;subst e;obtain⟨l,x⟩:=g.reach c' hb;exact o (q.W6 a x)
theorem K3{w b:Nat} (h:zb u w b) (h0:0<=as w):zb (jo u as) (nm u as w) b:=by
 obtain⟨c,j,a,i⟩:=h;obtain⟨r,l,n,o⟩:=U9 g f (g.ko _ _ _ a) h0;obtain⟨c',m,k,d⟩:=f.up w r c j l a;refine⟨c',pk u as c' m,by grind[zc4,jR],?_⟩;rw[Qe];rcases d with⟨rfl,_⟩|⟨_,e⟩
 ·exact i
 ·exact e.trans i
omit f in
theorem LD {s:Nat} (h:s∈K6 u as):s<u.ev.length/\((∃(v b k:Nat) (x:Vl),At u v b k/\stays as v=true/\u.ej[v]? =some x/\leaves x.op=true/\x.state=s)\/∃(b:Nat) (B:Bk),u.blocks[b]? =some B/\B.fin=3/\B.state=s):=by
 unfold K6 at h;rcases He.1 h with h|h
 ·obtain⟨n,hn,hs⟩:=List.mem_filterMap.1 h;obtain⟨h1,hs1⟩:=(jR g).1 hn;have hx:=iy h1;rw[hx]at hs;simp only at hs;split at hs
  ·rename_i hl;cases hs;obtain⟨b,k,V0⟩:=g.Ef n h1 (hP.h n hs1);exact⟨g.leave n _ hx hl,by grind⟩
  ·cases hs
 ·obtain ⟨B,hB,hs⟩:=List.mem_filterMap.1 h;obtain⟨b,hb⟩:=oY.1 hB;split at hs
  ·rename_i h3;cases hs;refine⟨?_,by grind⟩;rcases g.fin b B hb with⟨h4,_⟩|⟨h4,_⟩|⟨_,_,h4⟩
   ·omega
   ·omega
   ·exact h4
  ·cases hs
omit g f in
theorem UX {s:Nat} {fs:List Fm} (h:s∈HO u as) (hs:u.ev[s]? =some fs):(jo u as).ev[(HO u as).idxOf s]? =some (fs.map (Wf u as)):=by
 show((HO u as).map _)[_]? =_
 grind
omit f in
theorem zcY {i:Nat} {gs:List Fm} (h:(jo u as).ev[i]? =some gs):∃s fs,s∈HO u as/\u.ev[s]? =some fs/\gs=fs.map (Wf u as):=by
 have h:((HO u as).map _)[i]? =some gs:=h;rw[Dn]at h
 cases hn:(HO u as)[i]? with
 |none=>simp_all
 | some s=>
   rw[hn]at h;have hm:s∈HO u as:=DG hn;have hl:=(LD g ((vt _ _).1 hm)).1
   grind
omit g f in
theorem NO (fs:List Fm):ik (fs.map (Wf u as))=(ik fs).map (nm u as):=by
 unfold ik;rw[List.flatMap_map,List.map_flatMap];congr 1;funext x;rw[Lj];rfl
omit f in
theorem zeO {v:Nat} {x:Vl} (hs:stays as v=true) (hx:u.ej[v]? =some x) (hl:leaves x.op=true):x.state∈HO u as:=by
 refine(vt _ _).2 (SN _ (List.mem_filterMap.2 ⟨v,by grind[jR,ki],?_⟩))
 simp_all
omit g f in
theorem zcC {b:Nat} {B:Bk} (hB:u.blocks[b]? =some B) (h3:B.fin=3):B.state∈HO u as:=
 (vt _ _).2 (wBR _ (List.mem_filterMap.2 ⟨B,DG hB,by rw[if_pos h3]⟩))
omit f in
theorem QI {v b k:Nat} {x:Vl} (h:At u v b k) (hx:u.ej[v]? =some x) (hh:iO x.op=true):∀{w j:Nat} {y:Vl},At u w b j->u.ej[w]? =some y->j<=k->iO y.op=true:=by
 have key:∀(n v k:Nat) (x:Vl),At u v b k->u.ej[v]? =some x->iO x.op=true->∀{w j:Nat} {y:Vl},At u w b j->u.ej[w]? =some y->j+n=k->iO y.op=true:=by
  intro n
  induction n with
  | zero=>
    intro v k x h hx hh w j y hw hy e;obtain rfl:j=k:=by omega
    obtain⟨B,h1,h2⟩:=h;obtain⟨B',h3,h4⟩:=hw
    simp_all
  | succ n ih=>
    intro v k x h hx hh w j y hw hy e;obtain⟨k,rfl⟩:∃i,k=i+1:=⟨k-1,by omega⟩
    obtain⟨B,h1,h2⟩:=h;have hk:k<B.ej.length:=by have:=(ki.1 h2).1;omega
    have h3:At u (B.ej[k]) b k:=⟨B,h1,iy hk⟩
    have hz:=iy (g.ko _ _ _ h3);exact ih _ k _ h3 hz (g.II _ _ _ _ _ _ ⟨B,h1,h2⟩ h3 hx hz hh) hw hy (by omega)
 exact λ{w j y} hw hy hj=>key (k-j) v k x h hx hh hw hy (by omega)
theorem Wr:Good (jo u as):=by
 have hL:(fN u as).length<=u.ej.length:=jM _ _ (Hi g) λv h=>((jR g).1 h).1;have hS:(HO u as).length<=u.ev.length:=jM _ _ (Rc _) λs hs=>(LD g ((vt _ _).1 hs)).1;have hlen:(jo u as).ej.length=(fN u as).length:=by
  show((fN u as).map _).length=_;rw[Ik]
 have J:(jo u as).blocks.length=u.blocks.length:=by
  show(u.blocks.map _).length=_;rw[Ik]
 have oh:(jo u as).ev.length=(HO u as).length:=by
  show((HO u as).map _).length=_;rw[Ik]
 have U:∀s fs,s∈HO u as->u.ev[s]? =some fs->∀w∈ik fs,0<=as w:=by
  intro s fs hs q w e;rcases(LD g ((vt _ _).1 hs)).2 with⟨v,b,k,x,_,a,I,C,rfl⟩|⟨b,B,c,a,rfl⟩
  ·exact f.st v x fs I a C q w e
  ·exact f.out b B fs c a q w e
 have l:∀{i b k:Nat} {y:Vl},At (jo u as) i b k->(jo u as).ej[i]? =some y->∃v j x,At u v b j/\stays as v=true/\i=(fN u as).idxOf v/\k=pk u as b j/\u.ej[v]? =some x/\y=iF u as x:=by
  intro i b k y M m;obtain⟨v,j,c,a,I,C,r⟩:=Ku g M;obtain⟨n,x,L,S,V,_⟩:=Jk g m;rw[r]at L;cases L;exact by grind
 have R:∀{v b k:Nat},At u v b k->b<u.blocks.length:=λ⟨B,h,_⟩=>(ki.1 h).1
 refine
  { nv:=by rw[hlen];have:=g.nv;omega
    MH:=by rw[J];exact g.MH
    nb:=by rw[J];exact g.nb
    ns:=by rw[oh];have:=g.ns;omega
    st:=?_,Ef:=?_,FQ:=?_,ko:=?_,II:=?_,par:=?_,KN:=?_,op:=?_,use:=?_,leave:=?_,putAt:=?_,param:=?_,fin:=?_,nx:=?_,fi:=?_,Hf:=?_,Lz:=?_,reach:=?_,GM:=?_,L1:=?_,Md:=?_,L8:=?_,L4:=?_}
 ·intro s gs hs;obtain⟨s0,fs,c,a,rfl⟩:=zcY g hs;obtain⟨I,C,r⟩:=g.st s0 fs a;refine⟨by simpa using I,by simpa using C,λf' W=>?_⟩;obtain⟨N,X,rfl⟩:=MI.1 W;obtain⟨Y,h7,h8,h9⟩:=r N X;have ae:∀w,w∈N.locals\/w∈N.stack->0<=as w:=λw e=>U s0 fs c a w (by
   grind[ik])
  refine⟨by show(N.locals.map _).length<=40;simpa using Y,by show(N.stack.map _).length<=60;simpa using h7,λv hv=>?_,λv hv=>?_⟩
  ·obtain⟨w,e,rfl⟩:=MI.1 (show v∈N.locals.map (nm u as) from hv)
   grind[MR]
  ·obtain⟨w,e,rfl⟩:=MI.1 (show v∈N.stack.map (nm u as) from hv)
   grind[MR]
 ·intro i hi _;rw[hlen]at hi;have hn:=iy hi;obtain⟨c,a⟩:=(jR g).1 (DG hn);obtain⟨b,k,M⟩:=g.Ef _ c (hP.h _ a);refine⟨b,pk u as b k,?_⟩;have:=zc4 M a
  grind[zcx,Hi]
 ·intro i b k b' k' h h';obtain⟨v,j,c,a,I,C,r⟩:=Ku g h;obtain⟨v',j',L,S,V,g4,T⟩:=Ku g h';rw[r]at T;cases T;obtain⟨rfl,rfl⟩:=g.FQ _ _ _ _ _ c L;omega
 ·grind[Ku,ki]
 ·intro i i' b k y y' h h' m Z hh;obtain⟨v,j,x,c,a,_,C,r,rfl⟩:=l h m;obtain⟨v',j',x',L,S,_,g4,T,rfl⟩:=l h' Z;show iO x'.op=true;refine QI g c r hh L T ?_
  grind[zbM]
 ·intro i b k y h m F;obtain⟨v,j,x,c,_,_,_,r,rfl⟩:=l h m;exact g.par v b j x c r F
 ·intro i b k y Q h m F d;obtain⟨v,j,x,c,_,_,_,r,rfl⟩:=l h m;obtain⟨B,A,rfl⟩:=GJ d;obtain⟨Y,h7⟩:=g.KN v b j x B c r F A;refine⟨Y,?_⟩;have D:x.op=21:=F;show(if x.op=21\/x.op=20 then x.args.map (nm u as) else x.args).length=B.fi.length
  simp_all
 ·intro i y m;obtain⟨n,x,_,a,rfl,_⟩:=Jk g m;exact g.op n x a
 ·intro i y m w e;obtain⟨n,x,_,a,rfl,C⟩:=Jk g m;rw[Zi]at e;obtain⟨w0,o,rfl⟩:=MI.1 e;exact MR g f (g.use n x a w0 o) (f.use n x a C w0 o)
 ·intro i y m hl;obtain⟨n,x,_,a,rfl,C⟩:=Jk g m;have E:leaves x.op=true:=hl;rw[oh];show(if leaves x.op=true then(HO u as).idxOf x.state else x.state)<_;rw[if_pos E]
  grind[wBm,zeO]
 ·intro i y m F;obtain⟨n,x,_,a,rfl,C⟩:=Jk g m;have D:x.op=20:=F;show(if x.op=21\/x.op=20 then x.args.map (nm u as) else x.args).length=1;rw[if_pos (.inr D),Ik];exact g.putAt n x a D
 ·intro i y m F;obtain⟨n,x,c,a,rfl,C⟩:=Jk g m;obtain⟨L,S,V⟩:=g.param n x a F;refine⟨L,S,λw z hz aa ab=>?_⟩;obtain⟨n',x',ac,G,rfl,_⟩:=Jk g hz;obtain rfl:=V n' x' G aa ab;exact yZ (Hi g) ac c
 ·intro b Q d;obtain⟨B,A,rfl⟩:=GJ d;rcases g.fin b B A with⟨c,a⟩|⟨c,a,I⟩|⟨c,a,I⟩
  ·exact .inl ⟨c,a⟩
  ·refine .inr (.inl ⟨c,a,?_⟩);show vD _ (if B.fin=2 then nm u as B.cond else B.cond);rw[if_pos c];exact MR g f I (f.cond b B A c)
  ·refine .inr (.inr ⟨c,a,?_⟩);rw[oh];show(if B.fin=3 then(HO u as).idxOf B.state else B.state)<_;rw[if_pos c];exact wBm (zcC A c)
 ·intro b t ht;rw[XT]at ht;rw[J];exact g.nx b t ht
 ·intro b Q d;obtain⟨B,A,rfl⟩:=GJ d;rw[QW];exact g.fi b B A
 ·rw[QW];exact g.Hf
 ·intro b Q d a t ht;obtain⟨B,A,rfl⟩:=GJ d;rw[QW];exact g.Lz b B A a t ht
 ·intro b hb;rw[J]at hb;rw[Qe];exact g.reach b hb
 ·intro i b k y h m F w e;obtain⟨v,j,x,c,a,_,rfl,r,rfl⟩:=l h m;rw[Zi]at e;obtain⟨w0,o,rfl⟩:=MI.1 e;exact Zu g f (g.GM v b j x c r F w0 o) (R c) (f.use v x r a w0 o)
 ·intro i b k y Q h m F d j w p e hp;obtain⟨v,j0,x,c,a,_,rfl,r,rfl⟩:=l h m;obtain⟨B,A,rfl⟩:=GJ d;have D:x.op=21:=F;have e:(if x.op=21\/x.op=20 then x.args.map (nm u as) else x.args)[j]? =some w:=e;rw[if_pos (.inl D),Dn]at e
  cases hq:x.args[j]? with
  |none=>simp_all
  | some w0=>
    rw[hq]at e;obtain rfl:nm u as w0=w:=Option.some.inj e;exact K3 g f (g.L1 v b j0 x B c r D A j w0 p hq hp) (f.use v x r a w0 (by
      unfold hK
      grind))
 ·intro i b k y gs h m hl H w e;obtain⟨v,j,x,c,a,_,rfl,r,rfl⟩:=l h m;have E:leaves x.op=true:=hl;have O:(iF u as x).state=(HO u as).idxOf x.state:=by
   show(if leaves x.op=true then _ else _)=_;rw[if_pos E]
  have P:=g.leave v x r E;have q:=iy P;rw[O,UX (by grind) q]at H;cases H;rw[NO]at e;obtain⟨w0,o,rfl⟩:=MI.1 e;exact Zu g f (g.Md v b j x _ c r E q w0 o) (R c) (f.st v x _ r a E q w0 o)
 ·intro b Q d a;obtain⟨B,A,rfl⟩:=GJ d;have G:B.fin=2:=a;show zb _ (if B.fin=2 then nm u as B.cond else B.cond) b;rw[if_pos G];exact K3 g f (g.L8 b B A G) (f.cond b B A G)
 ·intro b Q gs d I H w e;obtain⟨B,A,rfl⟩:=GJ d;have K:B.fin=3:=I;have O:(nQ u as B).state=(HO u as).idxOf B.state:=by
   show(if B.fin=3 then _ else _)=_;rw[if_pos K]
  have P:B.state<u.ev.length:=by
   rcases g.fin b B A with⟨C,_⟩|⟨C,_⟩|⟨_,_,C⟩
   ·omega
   ·omega
   ·exact C
  have q:=iy P;rw[O,UX (zcC A K) q]at H;cases H;rw[NO]at e;obtain⟨w0,o,rfl⟩:=MI.1 e;exact K3 g f (g.L4 b B _ A K q w0 o) (f.out b B _ A K q w0 o)
end
open Dm
section
variable (u:U)(kp:Nat->Bool)
def yr(b:Nat):Nat:=if kp b=true then((List.range b).filter kp).length else 0
def yJ(i:Nat)(ps:List Nat):List Nat:=(List.range ps.length).filter λj=>kp (ps.getD j 0)&&(next u (ps.getD j 0)).contains i
def zA(i:Nat)(ps:List Nat):List Nat:=(yJ u kp i ps).map λj=>yr kp (ps.getD j 0)
def xF(i:Nat)(ps args:List Nat):List Nat:=(yJ u kp i ps).map λj=>args.getD j 0
def Qj:Bk:=⟨[],0,0,[],[],0⟩
def oi:List Nat:=(List.range u.blocks.length).filter kp
def JB(b:Nat):Bk:={u.blocks.getD b Qj with next:=(u.blocks.getD b Qj).next.map (yr kp),fi:=zA u kp b (u.blocks.getD b Qj).fi}
structure Cut (u':U):Prop where
 func:u'.func=u.func
 pc:u'.pc=u.pc
 ev:u'.ev=u.ev
 blocks:u'.blocks=(oi u kp).map (JB u kp)
 len:u'.ej.length=u.ej.length
 KN:∀(v b k:Nat) (x:Vl) (B:Bk),At u v b k->u.ej[v]? =some x->x.op=21->kp b=true->u.blocks[b]? =some B->u'.ej[v]? =some {x with args:=xF u kp b B.fi x.args}
 same:∀(v:Nat) (x:Vl),u.ej[v]? =some x->¬(x.op=21/\∃b k,At u v b k/\kp b=true)->u'.ej[v]? =some x
structure Pq (az a:List Int):Prop where
 len:a.length=az.length
 gone:∀(v b k:Nat),At u v b k->kp b=false->v<az.length->a[v]? =some (-1)
 same:∀(v:Nat),(¬∃b k,At u v b k/\kp b=false)->a[v]? =az[v]?
end
section
variable{u u':U}{kp:Nat->Bool}
theorem filter_all{p:Nat->Bool}{l:List Nat}(h:∀x∈l,p x=true):l.filter p=l:=List.filter_eq_self.2 h
theorem SZ(a:∀b,b<u.blocks.length->kp b=true) {b:Nat} (hb:b<u.blocks.length):yr kp b=b:=by
 unfold yr;rw[if_pos (a b hb),filter_all (by grind),wBQ]
theorem O4(g:Good u) (d:∀b,b<u.blocks.length->kp b=true) {b:Nat} {B:Bk} (e:u.blocks[b]? =some B):yJ u kp b B.fi=List.range B.fi.length:=by
 unfold yJ;refine filter_all λj a=>?_;have a:=ZG.1 a;rw[Je,iy a];have hp:B.fi[j]∈ahead u b:=by rw[<-g.fi b B e];exact AY a
 obtain⟨q,f,h,i,c⟩:=wA.1 hp;rw[zO]at c;rw[Option.getD_some,c,d q (by grind),wBr,List.contains_iff_mem]
 grind[next]
theorem RJ(l:List Nat) (d:Nat):(List.range l.length).map (λj=>l.getD j d)=l:=by
 refine wBZ λj=>?_
 grind
theorem Ux(g:Good u) (c:∀b,b<u.blocks.length->kp b=true) {b:Nat} {B:Bk} (d:u.blocks[b]? =some B):JB u kp b=B:=by
 have e:u.blocks.getD b Qj=B:=by rw[Je,d];rfl
 unfold JB;rw[e];have h:B.next.map (yr kp)=B.next:=by
  have:∀t∈B.next,yr kp t=t:=λt ht=>SZ c (g.nx b t (by grind[next]));rw[Xp this,List.map_id''];exact λ_=>rfl
 have i:zA u kp b B.fi=B.fi:=by
  unfold zA;rw[O4 g c d];have:∀j∈List.range B.fi.length,yr kp (B.fi.getD j 0)=B.fi.getD j 0:=λj a=>by
   have a:=ZG.1 a;rw[Je,iy a,Option.getD_some];have hp:B.fi[j]∈ahead u b:=by rw[<-g.fi b B d];exact AY a
   obtain⟨q,k,h,_,f⟩:=wA.1 hp;rw[zO]at f;rw[f];exact SZ c (by grind)
  rw[Xp this];exact RJ _ _
 simp_all
theorem Cut.eq(g:Good u) (j:∀b,b<u.blocks.length->kp b=true) (c:Cut u kp u'):u' = u:=by
 have hb:u'.blocks=u.blocks:=by
  rw[c.blocks,oi,filter_all (by simp_all)];refine wBZ λb=>?_;by_cases h:b<u.blocks.length
  ·grind[wBw,Ux,iy]
  ·simp_all
 have hv:u'.ej=u.ej:=by
  refine wBZ λv=>?_;by_cases h:v<u.ej.length
  ·have hx:=iy h;generalize u.ej[v]=x at*;rw[hx];by_cases hp:x.op=21/\∃b k,At u v b k/\kp b=true
   ·obtain ⟨d,b,k,a,f⟩:=hp;obtain⟨B,i,l⟩:=id a;rw[c.KN v b k x B a hx d f i];have e:xF u kp b B.fi x.args=x.args:=by
     unfold xF;rw[O4 g j i,<-(g.KN v b k x B a hx d i).2];exact RJ _ _
    rw[e]
   ·exact c.same v x hx hp
  ·rw[OE (by rw[c.len];omega),OE (by omega)]
 have d:=c.func;have m:=c.pc;have n:=c.ev;cases u;cases u'
 simp_all
theorem Pq.eq{az a:List Int} (c:Pq u kp az a) (d:∀b,b<u.blocks.length->kp b=true):a=az:=by
 refine wBZ λv=>c.same v ?_;rintro⟨b,k,⟨B,e,_⟩,h⟩
 grind
end
open Dm
theorem N6{l L:List Nat} (h:l <+: L) {v:Nat} (hv:v∈l):L.idxOf v=l.idxOf v:=by
 obtain⟨r,rfl⟩:=h
 grind
theorem IC(l r:List Nat):mw l <+: mw (l++r):=by
 induction r using N4 with
 |h0=>simp_all
 | hs r s a=>
   grind[Lb,zi,List.prefix_append]
section
variable{u:U}{as:Nat->Int}
def kM(u:U) (as:Nat->Int) (i j:Nat):List Nat:=(u.blocks.take i).flatMap (λB=>B.ej.filter (stays as))++(match u.blocks[i]? with
 |some B=>(B.ej.take j).filter (stays as)
 |none=>[])
theorem LQ:kM u as 0 0=[]:=by
 grind[kM]
theorem Ss{i:Nat} {B:Bk} (a:u.blocks[i]? =some B):kM u as i B.ej.length=kM u as (i+1) 0:=by
 unfold kM;rw[a];obtain⟨b,rfl⟩:=ki.1 a
 grind[MU,List.flatMap_singleton,Ki,stays]
theorem UL:kM u as u.blocks.length 0=fN u as:=by
 simp_all[kM,fN,Ki,OE,jO,JL]
theorem L9{i j v:Nat} {B:Bk} (a:u.blocks[i]? =some B) (hv:B.ej[j]? =some v):kM u as i (j+1)=if stays as v=true then kM u as i j++[v] else kM u as i j:=by
 unfold kM;rw[a];obtain⟨b,rfl⟩:=ki.1 hv
 grind[MU,Lb]
theorem IT{i j:Nat} {B:Bk} (a:u.blocks[i]? =some B):kM u as i j <+: fN u as:=by
 unfold kM fN;rw[a];obtain⟨b,rfl⟩:=ki.1 a;have e:u.blocks=u.blocks.take i++u.blocks[i]::u.blocks.drop (i+1):=by
  conv=>lhs;rw[<-ZI i u.blocks]
  rw[ZH b]
 grind[stays,ZI,Lb,List.prefix_append]
theorem zc8(b:zac u) {i j v:Nat} {B:Bk} (a:u.blocks[i]? =some B) (hv:B.ej[j]? =some v) (hs:stays as v=true):(fN u as).idxOf v=(kM u as i j).length/\v ∉ kM u as i j:=by
 have hp:=IT (as:=as) (j:=j+1) a;rw[L9 a hv,if_pos hs]at hp;have c:=AB (as:=as) b;obtain⟨r,d⟩:=hp
 grind
theorem Hs(a:∀v b k,At u v b k->v<u.ej.length) {v:Nat} (hv:v∈fN u as):v<u.ej.length:=by
 unfold fN at hv;obtain⟨B,c,hv⟩:=Xr.1 hv;obtain⟨b,hb⟩:=oY.1 c;obtain⟨k,d⟩:=oY.1 (Rl.1 hv).1;exact a v b k ⟨B,hb,d⟩
theorem Tf{n:Nat} (h:∀v,v<n->as v<(n:Int)):∀(k v:Nat),v<n->yI as k v<n
 |0,_,hv=>hv
 | k + 1,v,hv=>by
   unfold yI;split
   ·rename_i a
    exact Tf h k _ (by simp_all)
   ·exact hv
def sR(u:U) (l:List Nat):List Nat:=l.filterMap λn=>match u.ej[n]? with
 |some x=>if leaves x.op=true then some x.state else none
 |none=>none
def Cv(l:List Bk):List Nat:=l.filterMap λB=>if B.fin=3 then some B.state else none
theorem PA:K6 u as=sR u (fN u as)++Cv u.blocks:=rfl
end
open Dm
def zft(u:U) (v:Nat):Prop:=(∃x,u.ej[v]? =some x/\(x.op=19\/x.op=20\/x.op=22\/x.op=23))\/ (∃(i:Nat) (x:Vl) (fs:List Fm),u.ej[i]? =some x/\leaves x.op=true/\u.ev[x.state]? =some fs/\v∈ik fs)\/ (∃(b:Nat) (B:Bk),u.blocks[b]? =some B/\B.fin=2/\v=B.cond)\/ (∃(b:Nat) (B:Bk) (fs:List Fm),u.blocks[b]? =some B/\B.fin=3/\u.ev[B.state]? =some fs/\v∈ik fs)
inductive Live (u:U):Nat->Prop
 |root {v:Nat} (h:zft u v):Live u v
 |use {v w:Nat} {x:Vl} (h:Live u v) (hx:u.ej[v]? =some x) (a:w∈hK x):Live u w
def AL(l:List Vl):Prop:=∀x∈l,x.args.length<=2
section
variable{ops:List Int}
theorem Ph:∀(i:Nat) (s:Ds) (l:List Nat),(some_ ops i s l).2.ej=s.ej
 |0,_,_=>rfl
 | i+1,s,l=>by
   unfold some_;rw[Ph i];rfl
theorem Ct(s:Ds):(fK ops s).2.ej=s.ej:=by
 show(some_ ops (num ops s 4).1 (num ops s 4).2 []).2.ej=s.ej;rw[Ph];rfl
theorem Ly{s:Ds} {x:Vl} (h:AL s.ej) (hx:x.args.length<=2):AL (put s x).ej:=λy a=>by
 have a:y∈s.ej++[x]:=a;rcases He.1 a with b|b
 ·exact h y b
 simp_all
theorem Az{s:Ds}{x:Vl}(h:AL s.ej)(hx:x.args.length<=2):AL (jd s x).ej:=Ly h hx
theorem YY{s:Ds} {k a b:Nat} (h:AL s.ej):AL (tS ops s k a b).ej:=by
 have hs:AL (fK ops s).2.ej:=by rw[Ct];exact h
 unfold tS;by_cases c:k<12
 ·simp_all[if_pos,Az,vl]
 rw[if_neg c];by_cases c:k=12
 ·simp_all[if_pos,Az,num,vl]
 rw[if_neg c];by_cases c:k=13
 ·simp_all[if_pos,Az,num,vl]
 rw[if_neg c];by_cases c:k=14
 ·simp_all[if_pos,Az,vl]
 rw[if_neg c];by_cases c:k=15
 ·simp_all[if_pos,Ly,num,vl]
 rw[if_neg c];by_cases c:k=16
 ·simp_all[if_pos,Ly,fO,vl]
 rw[if_neg c];by_cases c:k=17
 ·simp_all[if_pos,Ly,vl]
 rw[if_neg c];by_cases c:k=18
 ·simp_all[if_pos,Ly,vl]
 simp_all[if_neg,Az,num,vl]
theorem U0{s:Ds}(h:AL s.ej):AL (vf ops s).ej:=YY h
theorem VL:∀(i:Nat) (s:Ds),AL s.ej->AL (rows ops i s).ej
 |0,_,h=>h
 | i+1,s,h=>by
   unfold rows;split
   ·exact VL i _ (U0 h)
   ·exact h
theorem GH{s:Ds}(h:AL s.ej):AL (row ops s).ej:=VL _ _ h
theorem Og{s:Ds} {v:Nat} {l:List Nat} (h:AL s.ej) (a:l.length<=2):AL (setArgs s v l).ej:=λy b=>by
 obtain⟨i,hi⟩:=oY.1 b;have hi:(s.ej.modify v λx=>{x with args:=l})[i]? =some y:=hi;rw[List.getElem?_modify]at hi
 cases hx:s.ej[i]? with
 |none=>simp_all
 | some x=>
   rw[hx]at hi;have hi:some (if v=i then{x with args:=l} else x)=some y:=hi;have:=Option.some.inj hi;subst this;split
   ·exact a
   ·exact h x (DG hx)
theorem Z3{t:Dt} (h:AL t.s.ej):AL (fork ops t).s.ej:=by
 unfold fork;refine GH (Az ?_ (by simp[vl]));refine GH (s:=(end_ _ _ _ _ _ _).s) ?_;exact GH (s:=(end_ _ _ _ _ _ _).s) h
theorem zba{t:Dt} (h:AL t.s.ej):AL (zl ops t).s.ej:=by
 unfold zl;refine GH (s:=(end_ _ _ _ _ _ _).s) ?_;show AL (fK ops _).2.ej;rw[Ct];exact GH (s:=(end_ _ _ _ _ _ _).s) h
theorem Z0{t:Dt} (h:AL t.s.ej):AL (loop ops t).s.ej:=by
 unfold loop;refine GH (s:=(end_ _ _ _ _ _ _).s) ?_;refine Og (s:=_) ?_ (by simp);have c:∀(a:Ds) (p:Nat) (l b:List Nat),l.length<=2->b.length<=2->AL a.ej->AL (if(num ops (setArgs a p l) 3).1=0 then setArgs (num ops (setArgs a p l) 3).2 p b else(num ops (setArgs a p l) 3).2).ej:=by grind[Og,num,setArgs]
 grind[GH,end_,Az,Ly,vl,Ct,fO]
theorem Py:∀(l:List Int) (t:Dt),AL t.s.ej->AL (mz ops l t).s.ej
 |[],_,h=>h
 | k ::l,t,h=>by
   unfold mz;split
   ·refine Py l _ ?_
    grind[vw,Z3,Z0,zba]
   ·exact h
theorem PE:∀(n i:Nat) (s:Ds),AL s.ej->AL (params n i s).ej
 |0,_,_,h=>h
 |n+1,i,s,h=>PE n (i+1) _ (by grind[Az,vl])
theorem zaU(ops a:List Int) (n:Int):AL (IB ops a n).ej:=by
 unfold IB;show AL (fK ops _).2.ej;rw[Ct];refine Py _ _ ?_;exact GH (Az (PE _ _ _ (λ_ h=>nomatch h)) (by simp[vl]))
end
open Dm
def US(nx:Nat->List Nat)(FM:Int)(b:Nat):Prop:=∃l,Pt nx b l/\∀x∈l,(x:Int)≠FM
theorem WD{nx:Nat->List Nat} {a b:Nat}:¬US nx (a:Int) b↔o0 nx a b:=by
 constructor
 ·intro h l c;refine Classical.byContradiction λd=>h ⟨l,c,λx hx e=>d ?_⟩
  grind
 ·rintro h ⟨l,c,hx⟩;exact hx a (h l c) rfl
structure Wo (n:Nat) (nx:Nat->List Nat) (FM:Int) (c:Option (Nat×Nat)) (seen:List Bool) (todo:List Nat):Prop where
 len:seen.length=n
 zero:seen[0]? =some true
 sound:∀v:Nat,seen[v]? =some true->US nx FM v
 work:∀v∈todo,seen[v]? =some true
 closed:∀v:Nat,seen[v]? =some true->v∈todo\/∀(k t:Nat),(nx v)[k]? =some t->(t:Int)≠FM->seen[t]? =some true\/∃j,c=some (v,j)/\j<=k
 less:todo.length+seen.count false<=n
theorem count_set{l:List Bool}:∀{v:Nat},l[v]? =some false->(l.set v true).count false+1=l.count false:=by
 grind
section
variable{n:Nat}{nx:Nat->List Nat}{FM:Int}{seen:List Bool}{todo:List Nat}
theorem Wo.start(b:0<n) (h0:FM≠0):Wo n nx FM none ((List.replicate n false).set 0 true) [0]:=by
 have hs:∀v:Nat,((List.replicate n false).set 0 true)[v]? =some true->v=0:=λv hv=>by
  grind
 have a:((List.replicate n false).set 0 true)[0]? =some true:=by simp_all
 refine⟨by simp,a,λv hv=>?_,λv hv=>?_,by simp_all,?_⟩
 ·rw[hs v hv];exact⟨[0],.nil,by grind⟩
 ·simp_all
 grind
theorem Wo.pop{b:Nat} (w:Wo n nx FM none seen (b::todo)):Wo n nx FM (some (b,0)) seen todo/\US nx FM b:=by
 have a:=w.less;rw[Rt]at a;refine⟨⟨w.len,w.zero,w.sound,λv hv=>w.work v (by simp[hv]),λv hv=>?_,by omega⟩,w.sound b (w.work b (by simp))⟩;rcases w.closed v hv with h|h
 ·grind
 grind
theorem Wo.skip{b j t:Nat} (w:Wo n nx FM (some (b,j)) seen todo) (ht:(nx b)[j]? =some t) (h:(t:Int)=FM\/seen[t]? =some true):Wo n nx FM (some (b,j+1)) seen todo:=by
 refine⟨w.len,w.zero,w.sound,w.work,λv hv=>?_,w.less⟩;rcases w.closed v hv with a|a
 ·simp_all
 grind
theorem Wo.push{b j t:Nat} (w:Wo n nx FM (some (b,j)) seen todo) (ht:(nx b)[j]? =some t) (hb:US nx FM b) (g:(t:Int)≠FM) (c:seen[t]? =some false):Wo n nx FM (some (b,j+1)) (seen.set t true) (todo++[t]):=by
 have d:=(ki.1 c).1;have a:(seen.set t true)[t]? =some true:=by simp_all
 have up:∀v:Nat,seen[v]? =some true->(seen.set t true)[v]? =some true:=by grind
 have down:∀v:Nat,(seen.set t true)[v]? =some true->v=t\/seen[v]? =some true:=by grind
 refine⟨by rw[TH];exact w.len,up 0 w.zero,λv hv=>?_,λv hv=>?_,λv hv=>?_,?_⟩
 ·rcases down v hv with rfl|h
  ·obtain⟨l,e,hx⟩:=hb;exact⟨v::l,.step e (DG ht),by simp_all⟩
  ·exact w.sound v h
 ·rcases He.1 hv with h|h
  ·exact up v (w.work v h)
  simp_all
 ·rcases down v hv with rfl|h
  ·simp_all
  ·rcases w.closed v h with f|f
   ·simp_all
   grind
 ·have:=count_set c;have:=w.less
  grind
theorem Wo.next{b:Nat} (w:Wo n nx FM (some (b,(nx b).length)) seen todo):Wo n nx FM none seen todo:=by
 refine⟨w.len,w.zero,w.sound,w.work,λv hv=>(w.closed v hv).imp id λh k t a ht=>?_,w.less⟩
 grind
theorem Wo.all(w:Wo n nx FM none seen []):∀{b:Nat} {l:List Nat},Pt nx b l->(∀x∈l,(x:Int)≠FM)->seen[b]? =some true
 |_,_,.nil,_=>w.zero
 | _,_,.step (p:=p) h e,hx=>by
   have c:=w.all h (by simp_all);obtain⟨k,d⟩:=oY.1 e;rcases w.closed p c with a|a
   ·cases a
   grind
theorem Wo.iff(w:Wo n nx FM none seen []) (b:Nat):seen[b]? =some true↔US nx FM b:=
 ⟨w.sound b,λ⟨_,a,c⟩=>w.all a c⟩
theorem Xh{b:Nat} (h:FM=0):¬US nx FM b:=by
 rintro⟨l,a,hx⟩;have:0∈l:=by
  clear hx
  induction a with
  |nil=>simp_all
  |step _ _ c=>simp_all
 grind
end
open Dm
def j6(op:Nat):Bool:=2<=op&&op<=16
theorem qZ{op:Nat}:j6 op=true↔2<=op/\op<=16:=by simp_all[j6,vH,CU]
def Jv(as:Nat->Int) (l:List Nat) (i:Nat):Int:=match l[i]? with
 |some w=>as w
 |none=>-1
def keyOf(as:Nat->Int)(x:Vl):Nat×Int×Int×Int:=(x.op,Jv as (hK x) 0,Jv as (hK x) 1,if x.op=2 then x.n else 0)
def Gm(u:U)(w v:Nat):Prop:=∃c j b k,At u w c j/\At u v b k/\(c=b/\j<k\/c≠b/\o0 (next u) c b)
structure NK (u:U) (as:Nat->Int):Prop where
 stay:∀(v:Nat) (x:Vl),u.ej[v]? =some x->j6 x.op=false->as v=(v:Int)
 num:∀(v:Nat) (x:Vl),u.ej[v]? =some x->j6 x.op=true->
  (as v=(v:Int)/\∀(w:Nat) (y:Vl),u.ej[w]? =some y->j6 y.op=true->as w=(w:Int)->Gm u w v->keyOf as y≠keyOf as x)\/
  ∃(w:Nat) (y:Vl),as v=(w:Int)/\u.ej[w]? =some y/\j6 y.op=true/\as w=(w:Int)/\Gm u w v/\keyOf as y=keyOf as x
section
variable{u:U}(g:Good u){as:Nat->Int}(d:NK u as)
include d
theorem NK.pos{v:Nat} (hv:v<u.ej.length):∃w:Nat,as v=(w:Int)/\w<u.ej.length/\as w=(w:Int)/\(w=v\/(Gm u w v/\∃y,u.ej[w]? =some y/\j6 y.op=true)):=by
 have hx:=iy hv
 cases hp:j6 u.ej[v].op with
 |false=>have:=d.stay v _ hx hp;grind
 | true=>
   rcases d.num v _ hx hp with⟨h,_⟩|⟨w,y,a,b,c,e,f,_⟩
   ·grind
   grind
include g
theorem NK.fit(o:∀v,u.ej.length<=v->as v = -1):Fit u as:=by
 have lt:∀{v w:Nat},as v=(w:Int)->v<u.ej.length:=by grind
 have p:∀{v},v<u.ej.length->0<=as v:=λ{v} hv=>by obtain⟨w,h,_⟩:=d.pos hv;omega
 have gl:∀{w},vD u w->w<u.ej.length:=λ⟨_,h,_⟩=>by grind
 have fl:∀{s fs},u.ev[s]? =some fs->∀w∈ik fs,w<u.ej.length:=λ{s fs} hs w a=>by
  unfold ik at a;obtain⟨f,r,a⟩:=Xr.1 a;obtain⟨_,_,l,q⟩:=(g.st s fs hs).2.2 f r
  grind
 refine⟨λv hv _=>?_,λv w b k e i=>?_,λv w e t=>?_,λv x hx _ w a=>p (gl (g.use v x hx w a)),by grind,λb B z q=>p ?_,by grind⟩
 ·obtain⟨w,l,q,m,_⟩:=d.pos hv
  grind
 ·obtain ⟨w',l,_,_,n⟩:=d.pos (g.ko _ _ _ i);obtain rfl:w=w':=by omega
  rcases n with rfl|⟨⟨c,j,D,k',E,A,F⟩,_⟩
  ·grind
  ·obtain⟨rfl,rfl⟩:=g.FQ _ _ _ _ _ i A
   grind
 ·obtain ⟨w',l,_,_,n⟩:=d.pos (lt e);obtain rfl:w=w':=by omega
  rcases n with rfl|⟨_,y,C,hp⟩
  ·exact t
  ·refine⟨y,C,?_⟩;rw[qZ]at hp;unfold IM
   grind
 ·rcases g.fin b B z with⟨m,_⟩|⟨_,_,m⟩|⟨m,_⟩
  ·omega
  ·simp_all
  ·omega
end
open Dm
def Dl(n:Int):Int:=n % 18446744073709551616
def Gi(n:Int):Int:=if n<9223372036854775808 then n else n-18446744073709551616
def JW(b:Bool):Int:=if b=true then 1 else 0
def M1(op:Nat) (a b:Int):Int:=
 if op=3 then Dl (a+b) else if op=4 then Dl (a-b) else if op=5 then Dl (a*b)
 else if op=6 then(if Gi b=0 then 0 else if Gi b = -1 then Dl (-a) else Dl ((Gi a).tdiv (Gi b)))
 else if op=7 then(if Gi b=0\/Gi b = -1 then 0 else Dl ((Gi a).tmod (Gi b)))
 else if op=8 then Dl (-a) else if op=9 then JW (decide (a=0)) else if op=10 then JW (decide (a=b)) else if op=11 then JW (decide (a≠b))
 else if op=12 then JW (decide (Gi a<Gi b)) else if op=13 then JW (decide (Gi a<=Gi b)) else if op=14 then JW (decide (a<b)) else 0
def uA(h:List Int)(a:Int):Int:=h.getD a.toNat 0
def Ox(h:List Int)(a v:Int):List Int:=if a=0 then h else h.set a.toNat v
def Au(x:Vl) (val:Nat->Int) (h:List Int):Int:=
 if x.op=2 then Dl x.n else if x.op=15 then uA h (val x.a) / 4294967296 else if x.op=16 then uA h (val x.a) % 4294967296
 else if x.op=17 then uA h (Dl (val x.a+Dl x.n)) else if x.op=18 then uA h (Dl (Dl (val x.a+1)+val x.b))
 else if x.op=8\/x.op=9 then M1 x.op (val x.a) 0 else M1 x.op (val x.a) (val x.b)
structure Rs where
 val:List Int
 heap:List Int
 steps:Nat
 polls:Nat
def Rs.of(s:Rs)(v:Nat):Int:=s.val.getD v 0
structure Fw where
 func:Int
 pc:Int
 locals:List Int
 stack:List Int
inductive Ex where
 |AX
 |left (steps:Nat) (fr:List Fw) (heap:List Int)
 |stuck
def yU(u:U)(s:Rs)(st:Nat):Ex:= .left s.steps (((u.ev[st]?).getD []).map λf=>⟨f.func,f.pc,f.locals.map s.of,f.stack.map s.of⟩) s.heap
def ym(u:U) (gY:Int) (n:Nat) (x:Vl) (s:Rs):Ex ⊕ Rs:=
 if x.op=19 then .inr {s with heap:=Ox s.heap (Dl (s.of x.a+Dl x.n)) (s.of x.b),steps:=s.steps+1}
 else if x.op=20 then .inr {s with heap:=Ox s.heap (Dl (Dl (s.of x.a+1)+s.of x.b)) (s.of (x.args.getD 0 0)),steps:=s.steps+1}
 else if x.op=22 then(if s.of x.a=0 then .inl (yU u {s with steps:=s.steps+1} x.state) else .inr {s with steps:=s.steps+1})
 else if x.op=23 then(if 0<=gY/\(s.polls:Int)=gY then .inl (yU u {s with steps:=s.steps+1} x.state) else .inr {s with steps:=s.steps+1,polls:=s.polls+1})
 else .inr {s with val:=s.val.set n (Au x s.of s.heap),steps:=s.steps+1}
def qy(u:U) (gY:Int) (fuel:Nat):List Nat->Rs->Ex ⊕ Rs
 |[],s=> .inr s
 | n ::l,s=>if fuel<=s.steps then .inl .AX else match u.ej[n]? with
   |none=> .inl .stuck
   | some x=>match ym u gY n x s with
     | .inl e=> .inl e
     | .inr s=>qy u gY fuel l s
def gM(u:U) (v:Nat):Bool:=match u.ej[v]? with
 |some x=>iO x.op
 |none=>false
def M8(u:U) (locals:List Int) (pG:Option Nat) (B:Bk) (val:Nat->Int) (v:Nat):Int:=match u.ej[v]? with
 | some x=>if x.op=1 then locals.getD x.n.toNat 0 else match pG with
   | some p=>match B.fi.findIdx? (·== p)with
     |some j=>val (x.args.getD j 0)
     |none=>0
   |none=>0
 |none=>0
def yS(val:List Int)(l:List (Nat×Int)):List Int:=l.foldl (λa p=>a.set p.1 p.2) val
def ou(u:U) (locals:List Int) (pG:Option Nat) (B:Bk) (s:Rs):Rs:=
 let hs:=B.ej.takeWhile (gM u)
 {s with val:=yS s.val (hs.map λv=>(v,M8 u locals pG B s.of v)),steps:=s.steps+hs.length}
def FE(B:Bk)(s:Rs):Option Nat:=if B.fin=1 then B.next[0]? else if B.fin=2 then(if s.of B.cond=0 then B.next[1]? else B.next[0]?) else none
def runM(u:U) (locals:List Int) (gY:Int) (fuel:Nat):Nat->Option Nat->Nat->Rs->Ex
 |0,_,_,_=> .stuck
 | Gj+1,pG,b,s=>match u.blocks[b]? with
   |none=> .stuck
   | some B=>match qy u gY fuel (B.ej.dropWhile (gM u)) (ou u locals pG B s)with
     | .inl e=>e
     | .inr s=>if fuel<=s.steps then .AX else if B.fin=3 then yU u {s with steps:=s.steps+1} B.state else match FE B s with
       |none=> .stuck
       |some t=>runM u locals gY fuel Gj (some b) t {s with steps:=s.steps+1}
def yT(u:U)(heap:List Int):Rs:=⟨List.replicate u.ej.length 0,heap,0,0⟩
def Ex.As:Ex->Ex->Prop
 | .left n fr h,.left n' fr' h'=>n'<=n/\fr' = fr/\h' = h
 | .left _ _ _,_=>False
 |_,_=>True
section
variable{u:U}{as:Nat->Int}
structure Alike (u:U) (as:Nat->Int) (s s':Rs):Prop where
 len:s.val.length=u.ej.length
 Fu:s'.val.length=(fN u as).length
 val:∀v∈fN u as,s'.of ((fN u as).idxOf v)=s.of v
 heap:s'.heap=s.heap
 steps:s'.steps<=s.steps
 polls:s'.polls=s.polls
structure Way (u:U) (as:Nat->Int) (locals:List Int) (gY:Int) (heap:List Int) (I:Nat->Nat->Rs->Prop):Prop where
 start:∀B:Bk,u.blocks[0]? =some B->I 0 (B.ej.takeWhile (gM u)).length (ou u locals none B (yT u heap))
 II:∀(b t:Nat) (B T:Bk) (s:Rs),u.blocks[b]? =some B->u.blocks[t]? =some T->t∈B.next->I b B.ej.length s->s.val.length=u.ej.length->I t (T.ej.takeWhile (gM u)).length (ou u locals (some b) T {s with steps:=s.steps+1})
 one:∀(b k v:Nat) (x:Vl) (s a:Rs),At u v b k->u.ej[v]? =some x->gM u v=false->I b k s->s.val.length=u.ej.length->ym u gY v x s = .inr a->I b (k+1) a
 use:∀(b k w:Nat) (r:Nat) (s:Rs),I b k s->s.val.length=u.ej.length->zE u w b k->as w=(r:Int)->s.of r=s.of w
theorem En{l:List Int} {i j:Nat} {x:Int} (hi:i<l.length):(l.set i x).getD j 0=if j=i then x else l.getD j 0:=by
 grind
theorem FB(l:List (Nat×Int)):∀val:List Int,(yS val l).length=val.length:=by
 induction l with
 |nil=>exact λ_=>rfl
 | cons p l a=>
   grind[yS,TH]
theorem EB{f:Nat->Int} {j:Nat}:∀(l:List Nat) (val:List Int),(∀v∈l,v<val.length)->(yS val (l.map λv=>(v,f v))).getD j 0=if j∈l then f j else val.getD j 0
 |[],_,_=>by rfl
 | v::l,val,h=>by
   show(yS (val.set v (f v)) (l.map λv=>(v,f v))).getD j 0=_;rw[EB l _ (by simp_all),En (by simp_all)]
   grind
end
theorem EU{u:U} {w b:Nat} {B:Bk} (d:u.blocks[b]? =some B) (h:zb u w b):zE u w b B.ej.length:=by
 obtain⟨c,j,a,f⟩:=h;refine⟨c,j,a,?_⟩;by_cases e:c=b
 ·subst e;obtain⟨g,i,k⟩:=a
  grind
 simp_all
section
variable{u:U}{P:Nat->Prop}{as:Nat->Int}[hP:V1 P as] (g:Gd u P)(f:Fit u as){I:Nat->Nat->Rs->Prop}{locals:List Int}{gY:Int}{heap:List Int}(W:Way u as locals gY heap I)
include g f W
theorem QD{b k w:Nat} {s s':Rs} (e:I b k s) (d:Alike u as s s') (hs:zE u w b k) (h0:0<=as w):s'.of (nm u as w)=s.of w:=by
 obtain⟨c,j,a,_⟩:=id hs;obtain⟨r,h,i,l⟩:=U9 g f (g.ko _ _ _ a) h0;rw[l,d.val r i];exact W.use b k w r s e d.len hs h
theorem Oj{b k st:Nat} {s s':Rs} {fs:List Fm} (h:I b k s) (d:Alike u as s s') (f:st∈HO u as) (c:u.ev[st]? =some fs) (hs:∀w∈ik fs,zE u w b k/\0<=as w) :
  ∃fr,yU u {s with steps:=s.steps+1} st = .left (s.steps+1) fr s.heap/\yU (jo u as) {s' with steps:=s'.steps+1} ((HO u as).idxOf st) = .left (s'.steps+1) fr s.heap:=by
 refine ⟨_,rfl,?_⟩;unfold yU;rw[UX f c,c,d.heap];simp only[Option.getD_some,List.map_map];congr 1;refine Xp λa g=>?_;have e:∀l:List Nat,(∀w∈l,w∈ik fs)->(l.map (nm u as)).map s'.of=l.map s.of:=λl i=>by
  grind[List.map_map,Xp,QD]
 show Fw.mk a.func a.pc ((a.locals.map (nm u as)).map s'.of) ((a.stack.map (nm u as)).map s'.of)=_;rw[e a.locals (by grind[ik,SN]),e a.stack (by grind[ik,wBR])];rfl
variable (FH:∀(v b k:Nat)(x:Vl),At u v b k->u.ej[v]? =some x->stays as v=false->x.op≠19/\x.op≠20/\(x.op=22->∀s,I b k s->s.of x.a≠0)/\x.op≠23)
include FH
omit g f W FH in
theorem Hw {x:Vl}:(two x.op=true->x.op≠21->x.a∈hK x/\x.b∈hK x)/\(nq x.op=true->x.op≠21->x.a∈hK x):=by
 constructor
 ·intro h h1;unfold hK
  grind
 ·intro h h1;unfold hK
  grind
omit FH in
theorem zc2 {b k v:Nat} {x:Vl} {s s':Rs} (V0:At u v b k) (hx:u.ej[v]? =some x) (hh:gM u v=false) (hst:stays as v=true) (hI:I b k s) (ha:Alike u as s s') :
  (∀n fr hp,ym u gY v x s = .inl (.left n fr hp)->∃n',n'<=n/\ym (jo u as) gY ((fN u as).idxOf v) (iF u as x) s' = .inl (.left n' fr hp))/\
  (∀s1,ym u gY v x s = .inr s1->∃s1',ym (jo u as) gY ((fN u as).idxOf v) (iF u as x) s' = .inr s1'/\Alike u as s1 s1'):=by
 have h21:x.op≠21:=by grind[gM,iO]
 have hvl:=(ki.1 hx).1;have hm:v∈fN u as:=(jR g).2 ⟨hvl,hst⟩;have eu:∀w∈hK x,s'.of (nm u as w)=s.of w:=λw hw=>QD g f W hI ha (g.GM v b k x V0 hx h21 w hw) (f.use v x hx hst w hw);have ea:two x.op=true\/nq x.op=true->s'.of (iF u as x).a=s.of x.a:=λh=>by
  have:(iF u as x).a=nm u as x.a:=by
   show(if _ then nm u as x.a else x.a)=_;rcases h with h|h
   ·simp_all
   ·grind
  grind[Hw]
 have eb:two x.op=true->s'.of (iF u as x).b=s.of x.b:=by simp_all[iF,nm,if_pos,Hw]
 have hop:=g.op v x hx;have stp:=ha.steps;have pol:=ha.polls;have hp:=ha.heap;have goH:∀(q q':List Int),q' = q->Alike u as {s with heap:=q,steps:=s.steps+1} {s' with heap:=q',steps:=s'.steps+1}:=λq q' e=>⟨ha.len,ha.Fu,ha.val,e,by simp only;omega,pol⟩
 have lv:leaves x.op=true->∃fs,u.ev[x.state]? =some fs/\(iF u as x).state=(HO u as).idxOf x.state/\x.state∈HO u as/\∀w∈ik fs,zE u w b k/\0<=as w:=λhl=>by
  have hs0:=g.leave v x hx hl;have hfs:=iy hs0;exact⟨_,hfs,if_pos hl,zeO g hst hx hl,λw hw=>⟨g.Md v b k x _ V0 hx hl hfs w hw,f.st v x _ hx hst hl hfs w hw⟩⟩
 unfold ym;rw[show(iF u as x).op=x.op from rfl,show(iF u as x).n=x.n from rfl];by_cases h19:x.op=19
 ·have e2:two x.op=true:=by rw[h19];rfl
  simp_all
 rw[if_neg h19,if_neg h19];by_cases h20:x.op=20
 ·have e2:two x.op=true:=by rw[h20];rfl
  rw [if_pos h20,if_pos h20];refine⟨λ_ _ _ h=>(nomatch h),λs1 h=>?_⟩;cases h;refine⟨_,rfl,goH _ _ ?_⟩;have hl:=g.putAt v x hx h20;have eC:s'.of ((iF u as x).args.getD 0 0)=s.of (x.args.getD 0 0):=by
   have:(iF u as x).args=x.args.map (nm u as):=if_pos (.inr h20);rw[this]
   match hq:x.args,hl with
   | [w],_=>
     simp_all[hK,if_neg,if_pos]
  simp_all
 rw[if_neg h20,if_neg h20];by_cases h22:x.op=22
 ·have e1:nq x.op=true:=by rw[h22];rfl
  rw[if_pos h22,if_pos h22,ea (.inr e1)];obtain⟨fs,l1,l2,l3,l4⟩:=lv (by rw[h22];rfl);by_cases hz:s.of x.a=0
  ·rw[if_pos hz,if_pos hz];refine⟨λn fr q h=>?_,λ_ h=>(nomatch h)⟩;obtain⟨fr',g1,g2⟩:=Oj g f W hI ha l3 l1 l4
   grind
  simp_all
 rw[if_neg h22,if_neg h22];by_cases h23:x.op=23
 ·rw [if_pos h23,if_pos h23,pol];obtain⟨fs,l1,l2,l3,l4⟩:=lv (by rw[h23];rfl);by_cases hz:0<=gY/\(s.polls:Int)=gY
  ·rw[if_pos hz,if_pos hz];refine⟨λn fr q h=>?_,λ_ h=>(nomatch h)⟩;obtain⟨fr',g1,g2⟩:=Oj g f W hI ha l3 l1 l4
   grind
  ·rw[if_neg hz,if_neg hz];refine⟨λ_ _ _ h=>(nomatch h),λs1 h=>?_⟩;cases h;exact⟨_,rfl,ha.len,ha.Fu,ha.val,hp,by simp only;omega,by simp only⟩
 rw [if_neg h23,if_neg h23];refine⟨λ_ _ _ h=>(nomatch h),λs1 h=>?_⟩;cases h;have eV:Au (iF u as x) s'.of s'.heap=Au x s.of s.heap:=by
  have h1:x.op≠1:=by grind[gM,iO]
  unfold Au;rw[show(iF u as x).op=x.op from rfl,show(iF u as x).n=x.n from rfl,hp];have ht:x.op≠2->two x.op=true\/nq x.op=true:=λh2=>by
   unfold two nq;simp only[KO,vH,CU,Cw];omega
  by_cases h2:x.op=2
  ·rw[if_pos h2,if_pos h2]
  rw [if_neg h2,if_neg h2,ea (ht h2)];have htw:x.op≠15->x.op≠16->x.op≠17->¬(x.op=8\/x.op=9)->two x.op=true:=λa1 a2 a3 a4=>by
   unfold two;simp only[KO,vH,CU,Cw];omega
  by_cases h15:x.op=15
  ·rw[if_pos h15,if_pos h15]
  rw[if_neg h15,if_neg h15];by_cases h16:x.op=16
  ·rw[if_pos h16,if_pos h16]
  rw[if_neg h16,if_neg h16];by_cases h17:x.op=17
  ·rw[if_pos h17,if_pos h17]
  rw[if_neg h17,if_neg h17];by_cases h18:x.op=18
  ·simp_all
  rw[if_neg h18,if_neg h18];by_cases h89:x.op=8\/x.op=9
  ·rw[if_pos h89,if_pos h89]
  ·simp_all
 rw[eV];refine⟨_,rfl,by simp only[TH];exact ha.len,by simp only[TH];exact ha.Fu,λw hw=>?_,hp,by simp only;omega,pol⟩;show(s'.val.set _ _).getD _ 0=(s.val.set _ _).getD _ 0;rw[En (by rw[ha.Fu];exact wBm hm),En (by rw[ha.len];exact hvl)];by_cases e:w=v
 ·subst e;rw[if_pos rfl,if_pos rfl]
 ·rw[if_neg e,if_neg λh=>e (Vi hw hm h)];exact ha.val w hw
theorem Vv{fuel b:Nat} {B:Bk} (A:u.blocks[b]? =some B):∀(l:List Nat) (k:Nat) (s s':Rs),B.ej.drop k=l->k+l.length=B.ej.length->(∀v∈l,gM u v=false)->I b k s->Alike u as s s'->
  (∀n fr hp,qy u gY fuel l s = .inl (.left n fr hp)->∃q,q<=n/\qy (jo u as) gY fuel ((l.filter (stays as)).map (fN u as).idxOf) s' = .inl (.left q fr hp))/\
  (∀c,qy u gY fuel l s = .inr c->∃a,qy (jo u as) gY fuel ((l.filter (stays as)).map (fN u as).idxOf) s' = .inr a/\Alike u as c a/\I b B.ej.length c)
 | [],k,s,s',hl,m,_,hI,ha=>by
   refine⟨λn fr hp h=>(nomatch h),λc h=>?_⟩;cases h;have m:k=B.ej.length:=by simpa using m
   subst m
   exact⟨s',rfl,ha,hI⟩
 | v ::l,k,s,s',hl,m,hh,hI,ha=>by
   have o:k<B.ej.length:=by rw[Rt]at m;omega
   rw[ZH o]at hl;obtain⟨hv,r⟩:=List.cons.inj hl;have d:At u v b k:=⟨B,A,by rw[<-hv];exact iy o⟩
   have p:=g.ko _ _ _ d;have hx:=iy p;generalize u.ej[v]=x at hx;have i:=hh v (by simp);have t:=λ(c a:Rs) (y:I b (k+1) c) (z:Alike u as c a)=>Vv A (fuel:=fuel) l (k+1) c a r (by grind) (by simp_all) y z;show(∀n fr hp,(if fuel<=s.steps then _ else _)=_->_)/\(∀c,(if fuel<=s.steps then _ else _)=_->_);by_cases hf:fuel<=s.steps
   ·simp_all
   rw[if_neg hf,hx];simp only;have C:=ha.steps
   cases hst:stays as v with
   | true=>
     have D:v∈fN u as:=by grind[jR]
     have e:((v::l).filter (stays as)).map (fN u as).idxOf=(fN u as).idxOf v::(l.filter (stays as)).map (fN u as).idxOf:=by rw[wBn,if_pos hst];rfl
     rw[e];show(∀n fr hp,_->∃q,q<=n/\(if fuel<=s'.steps then _ else _)=_)/\(∀c,_->∃a,(if fuel<=s'.steps then _ else _)=_/\_);rw[if_neg (by omega),Re (HW D) hx];simp only;obtain⟨J,E⟩:=zc2 g f W d hx i hst hI ha
     cases hq:ym u gY v x s with
     | inl e=>
       grind
     | inr c=>
       obtain⟨a,F,G⟩:=E _ hq;rw[F]
       exact t c a (W.one b k v x s c d hx i hI ha.len hq) G
   | false=>
     have e:((v::l).filter (stays as)).map (fN u as).idxOf=(l.filter (stays as)).map (fN u as).idxOf:=by rw[wBn,if_neg (by simp_all)]
     rw[e];obtain⟨d1,d2,d3,d4⟩:=FH v b k x d hx hst;by_cases j:x.op=22
     ·have hq:ym u gY v x s = .inr {s with steps:=s.steps+1}:=by
        unfold ym;rw[if_neg d1,if_neg d2,if_pos j,if_neg (d3 j s hI)]
      rw[hq];exact t _ s' (W.one b k v x s _ d hx i hI ha.len hq) ⟨ha.len,ha.Fu,ha.val,ha.heap,by simp only;omega,ha.polls⟩
     have hq:ym u gY v x s = .inr {s with val:=s.val.set v (Au x s.of s.heap),steps:=s.steps+1}:=by
       unfold ym;rw[if_neg d1,if_neg d2,if_neg j,if_neg d4]
     rw[hq];refine t _ s' (W.one b k v x s _ d hx i hI ha.len hq) ⟨by simp only[TH];exact ha.len,ha.Fu,λw H=>?_,ha.heap,by grind,ha.polls⟩;rw[ha.val w H];show _=(s.val.set _ _).getD _ 0;rw[En (by rw[ha.len];exact p),if_neg (by grind[jR])];rfl
omit f W FH in
theorem Jl {b:Nat} {B:Bk} (hB:u.blocks[b]? =some B):∀v∈B.ej.dropWhile (gM u),gM u v=false:=by
 have e:=wA6 (p:=gM u) (l:=B.ej)
 cases hd:B.ej.dropWhile (gM u)with
 |nil=>simp_all
 | cons w r=>
   have hw:gM u w=false:=by
     have:=List.head?_dropWhile_not (gM u) B.ej;rw[hd]at this;simpa using this
   intro v hv
   cases hq:gM u v with
   |false=>rfl
   | true=>
     exfalso;rw[hd]at e;generalize B.ej.takeWhile (gM u)=hs at e;obtain⟨n,hn⟩:=oY.1 hv;have a1:At u v b (hs.length+n):=⟨B,hB,by rw[<-e,VG (by omega)];rw[wBd];exact hn⟩
     have a2:At u w b hs.length:=⟨B,hB,by rw[<-e,VG (by omega),Nat.sub_self];rfl⟩
     have hx:=iy (g.ko _ _ _ a1);have hy:=iy (g.ko _ _ _ a2)
     grind[gM,QI]
omit g f W FH in
theorem KT {p:Nat->Bool} {x:Nat}:∀{l:List Nat},x∈l.takeWhile p->p x=true
 |[],h=>by cases h
 | a ::l,h=>by
   rw[List.takeWhile_cons]at h;split at h
   ·rename_i ha
    rcases IS.1 h with rfl|h
    ·exact ha
    ·exact KT h
   ·cases h
omit g f W FH in
theorem IQ {p:Nat->Bool}:∀{a b:List Nat},(∀x∈a,p x=true)->(∀x∈b,p x=false)->(a++b).takeWhile p=a/\(a++b).dropWhile p=b
 | [],b,_,hb=>by
   cases b <;> simp_all
 | x::a,b,ha,hb=>by
   obtain⟨h1,h2⟩:=IQ (a:=a) (b:=b) (by simp_all) hb
   simp_all
omit f W FH in
theorem YJ {v:Nat} (hv:v∈fN u as):gM (jo u as) ((fN u as).idxOf v)=gM u v:=by
 have hx:=iy ((jR g).1 hv).1;unfold gM;rw[Re (HW hv) hx,hx];rfl
omit f W FH in
theorem Vf {b:Nat} {B:Bk} (hB:u.blocks[b]? =some B) :
  (nQ u as B).ej.takeWhile (gM (jo u as))=((B.ej.takeWhile (gM u)).filter (stays as)).map (fN u as).idxOf/\(nQ u as B).ej.dropWhile (gM (jo u as))=((B.ej.dropWhile (gM u)).filter (stays as)).map (fN u as).idxOf:=by
 have e:(nQ u as B).ej=((B.ej.takeWhile (gM u)).filter (stays as)).map (fN u as).idxOf++((B.ej.dropWhile (gM u)).filter (stays as)).map (fN u as).idxOf:=by
  rw[<-Lj,<-wB0,wA6];rfl
 have MB:∀v∈B.ej,stays as v=true->v∈fN u as:=λv hv hs=>by
  obtain⟨k,hk⟩:=oY.1 hv;exact(jR g).2 ⟨g.ko v b k ⟨B,hB,hk⟩,hs⟩
 rw[e];refine IQ (λx hx=>?_) λx hx=>?_
 ·obtain⟨v,hv,rfl⟩:=MI.1 hx
  grind[YJ,List.takeWhile_subset,KT]
 ·obtain⟨v,hv,rfl⟩:=MI.1 hx
  grind[YJ,List.dropWhile_subset,Jl]
omit f W FH in
theorem YW {b:Nat} {B:Bk} {pG:Option Nat} {s s':Rs} (hB:u.blocks[b]? =some B) (ha:Alike u as s s')
  (zfX:∀(v k:Nat) (x:Vl) (j p a:Nat),At u v b k->stays as v=true->u.ej[v]? =some x->x.op=21->pG=some p->B.fi[j]? =some p->x.args[j]? =some a->s'.of (nm u as a)=s.of a) :
  Alike u as (ou u locals pG B s) (ou (jo u as) locals pG (nQ u as B) s'):=by
 obtain ⟨e1,_⟩:=Vf (as:=as) g hB;have W9:∀v∈B.ej.takeWhile (gM u),∃k,At u v b k:=λv hv=>by
  obtain⟨k,hk⟩:=oY.1 (List.takeWhile_subset _ hv);exact⟨k,B,hB,hk⟩
 have hw:∀v∈B.ej.takeWhile (gM u),stays as v=true->M8 (jo u as) locals pG (nQ u as B) s'.of ((fN u as).idxOf v)=M8 u locals pG B s.of v:=by
  intro v hv hs;obtain⟨k,V0⟩:=W9 v hv;have hvl:=g.ko _ _ _ V0;have hx:=iy hvl;generalize u.ej[v]=x at hx;have hm:v∈fN u as:=by grind[jR]
  unfold M8;rw[Re (HW hm) hx,hx];show(if x.op=1 then _ else _)=(if x.op=1 then _ else _)
  by_cases h1:x.op=1
  ·rw[if_pos h1,if_pos h1];rfl
  rw [if_neg h1,if_neg h1];have h21:x.op=21:=by
   have:=KT hv;unfold gM at this;rw[hx]at this;unfold iO at this;rw[KO,Cw,Cw]at this;omega
  cases hf:pG with
  |none=>rfl
  | some p=>
    show (match B.fi.findIdx? (·== p)with
      |some j=>s'.of ((iF u as x).args.getD j 0)
      |none=>0)=(match B.fi.findIdx? (·== p)with
      |some j=>s.of (x.args.getD j 0)
      |none=>0)
    cases hj:B.fi.findIdx? (·== p)with
    |none=>rfl
    | some j=>
      simp only;obtain⟨hjl,hjp,_⟩:=List.findIdx?_eq_some_iff_getElem.1 hj;rw[Cw]at hjp;have hpl:=(g.KN v b k x B V0 hx h21 hB).2;have hja:x.args[j]? =some x.args[j]:=by simp_all
      have e:(iF u as x).args=x.args.map (nm u as):=if_pos (.inl h21)
      grind
 unfold ou;simp only;rw[e1];have hv0:∀v∈B.ej.takeWhile (gM u),v<s.val.length:=λv hv=>by
  obtain⟨k,V0⟩:=W9 v hv;rw[ha.len];exact g.ko _ _ _ V0
 refine⟨by simp only[FB];exact ha.len,by simp only[FB];exact ha.Fu,λv hv=>?_,ha.heap,?_,ha.polls⟩
 ·show (yS s'.val _).getD _ 0=(yS s.val _).getD _ 0;rw[EB _ _ hv0,EB _ _ λw hw=>by
   obtain⟨v',hv',rfl⟩:=MI.1 hw;obtain⟨h1,h2⟩:=Rl.1 hv';obtain⟨k,V0⟩:=W9 v' h1;rw[ha.Fu];exact wBm ((jR g).2 ⟨g.ko _ _ _ V0,h2⟩)]
  by_cases hm:v∈B.ej.takeWhile (gM u)
  ·rw[if_pos hm,if_pos (MI.2 ⟨v,by grind[jR],rfl⟩)]
   grind[jR]
  ·rw [if_neg hm,if_neg λh=>by
    obtain⟨v',hv',e⟩:=MI.1 h;obtain⟨h1,h2⟩:=Rl.1 hv';obtain⟨k,V0⟩:=W9 v' h1;obtain rfl:=Vi ((jR g).2 ⟨g.ko _ _ _ V0,h2⟩) hv e
    simp_all]
   exact ha.val v hv
 ·simp only[Ik];have:=wBE (stays as) (B.ej.takeWhile (gM u));have:=ha.steps;omega
theorem YH{fuel:Nat}:∀(Gj:Nat) (pG:Option Nat) (b:Nat) (B:Bk) (s s':Rs),u.blocks[b]? =some B->Alike u as s s'->
  ((pG=none/\b=0/\s=yT u heap)\/∃(p:Nat) (P:Bk) (o i:Rs),pG=some p/\u.blocks[p]? =some P/\b∈P.next/\I p P.ej.length o/\Alike u as o i/\s = {o with steps:=o.steps+1}/\s' = {i with steps:=i.steps+1})->
  (runM u locals gY fuel Gj pG b s).As (runM (jo u as) locals gY fuel Gj pG b s')
 |0,_,_,_,_,_,_,_,_=>trivial
 | Gj+1,pG,b,B,s,s',hB,ha,he=>by
   have Q:=(ki.1 hB).1;have E:Alike u as (ou u locals pG B s) (ou (jo u as) locals pG (nQ u as B) s'):=by
     refine YW g hB ha λv k x j p a F hs hx G A hp hq=>?_;rcases he with⟨z,_⟩|⟨N,P,o,i,z,h,C,q,H,rfl,rfl⟩
     ·simp_all
     ·rw[z]at A
      cases A;exact QD g f W (s:=o) (s':=i) q H (EU h (g.L1 v b k x B F hx G hB j a p hq hp)) (f.use v x hx hs a (by
        unfold hK
        grind))
   have J:I b (B.ej.takeWhile (gM u)).length (ou u locals pG B s):=by
     rcases he with⟨rfl,rfl,rfl⟩|⟨N,P,o,i,rfl,h,C,q,H,rfl,rfl⟩
     ·exact W.start B hB
     ·exact W.II N b P B o h hB C q H.len
   obtain ⟨_,R⟩:=Vf (as:=as) g hB;have hlen:(B.ej.takeWhile (gM u)).length+(B.ej.dropWhile (gM u)).length=B.ej.length:=by
     rw[<-KC,wA6]
   have K:B.ej.drop (B.ej.takeWhile (gM u)).length=B.ej.dropWhile (gM u):=by
     have e:=wA6 (p:=gM u) (l:=B.ej);generalize B.ej.takeWhile (gM u)=a at e⊢;generalize B.ej.dropWhile (gM u)=d at e⊢;rw[<-e];exact List.drop_left' rfl
   obtain⟨r1,r2⟩:=Vv g f W FH (fuel:=fuel) hB _ _ _ _ K hlen (Jl g hB) J E;unfold runM;rw[hB,Uz hB];simp only;rw[R]
   cases hq:qy u gY fuel (B.ej.dropWhile (gM u)) (ou u locals pG B s)with
   | inl e=>
     simp only
     cases e with
     |AX=>exact trivial
     |stuck=>exact trivial
     | left n fr hp=>
       obtain⟨X,z,h⟩:=r1 n fr hp hq;rw[h]
       exact⟨z,rfl,rfl⟩
   | inr D=>
     obtain⟨r,z,h,C⟩:=r2 D hq;rw[z];simp only;have S:=h.steps;by_cases A:fuel<=D.steps
     ·rw[if_pos A];exact trivial
     rw[if_neg A,if_neg (show ¬fuel<=r.steps by omega)];show Ex.As (if B.fin=3 then _ else _) (if B.fin=3 then _ else _);by_cases c:B.fin=3
     ·rw[if_pos c,if_pos c]
      have L:B.state<u.ev.length:=by
        rcases g.fin b B hB with⟨q,_⟩|⟨q,_⟩|⟨_,_,q⟩
        ·omega
        ·omega
        ·exact q
      have y:=iy L;obtain⟨fr,T,U⟩:=Oj g f W C h (zcC hB c) y λw O=>⟨EU hB (g.L4 b B _ hB c y w O),f.out b B _ hB c y w O⟩
      rw[T,show(nQ u as B).state=(HO u as).idxOf B.state from if_pos c,U];exact⟨by omega,rfl,rfl⟩
     rw[if_neg c,if_neg c];have V:FE (nQ u as B) r=FE B D:=by
       unfold FE;show(if B.fin=1 then B.next[0]? else if B.fin=2 then(if r.of (if B.fin=2 then nm u as B.cond else B.cond)=0 then B.next[1]? else B.next[0]?) else none)=_;by_cases m:B.fin=2
       ·rw[if_pos m,if_pos m,if_pos m,QD g f W C h (EU hB (g.L8 b B hB m)) (f.cond b B hB m)]
       ·simp_all
     rw[V]
     cases hn:FE B D with
     |none=>exact trivial
     | some t=>
       simp only;have ht:t∈B.next:=by
         unfold FE at hn
         repeat' split at hn
         all_goals grind
       have M:=g.nx b t (by grind[next]);exact YH Gj (some b) t _ _ _ (iy M) ⟨h.len,h.Fu,h.val,h.heap,by simp_all,h.polls⟩ (by grind)
theorem zbk{fuel:Nat} (Gj:Nat):(runM u locals gY fuel Gj none 0 (yT u heap)).As (runM (jo u as) locals gY fuel Gj none 0 (yT (jo u as) heap)):=by
 have a:(jo u as).ej.length=(fN u as).length:=by
  show((fN u as).map _).length=_;rw[Ik]
 refine YH g f W FH Gj none 0 _ _ _ (iy (show 0<u.blocks.length from g.MH)) ⟨by simp[yT],by grind[yT],λv _=>?_,rfl,jO _,rfl⟩ (by simp_all);have e:∀n m,(List.replicate n (0:Int)).getD m 0=0:=by grind
 exact(e _ _).trans (e _ _).symm
end
open Dm
theorem I1{x:Vl} {f j:Nat->Int} {h:List Int} (hp:j6 x.op=true) (k:∀w∈hK x,f w=j w):Au x f h=Au x j h:=by
 rw[qZ]at hp;have g:x.op≠21:=by omega
 have l:x.op≠2->f x.a=j x.a:=λi=>by
  by_cases ht:two x.op=true
  ·exact k _ (Hw.1 ht g).1
  ·refine k _ (Hw.2 ?_ g);unfold two at ht;unfold nq;simp only[KO,vH,CU,Cw]at ht⊢;omega
 have m:two x.op=true->f x.b=j x.b:=λht=>k _ (Hw.1 ht g).2;unfold Au;by_cases i:x.op=2
 ·rw[if_pos i,if_pos i]
 rw[if_neg i,if_neg i,l i];by_cases c:x.op=15
 ·rw[if_pos c,if_pos c]
 rw[if_neg c,if_neg c];by_cases d:x.op=16
 ·rw[if_pos d,if_pos d]
 rw[if_neg d,if_neg d,if_neg (show ¬x.op=17 by omega),if_neg (show ¬x.op=17 by omega),if_neg (show ¬x.op=18 by omega),if_neg (show ¬x.op=18 by omega)];by_cases e:x.op=8\/x.op=9
 ·rw[if_pos e,if_pos e]
 ·rw [if_neg e,if_neg e,m (by
   unfold two;simp only[KO,vH,CU,Cw];omega)]
theorem XY{x y:Vl} {as:Nat->Int} {f:Nat->Int} {h:List Int} (hp:j6 x.op=true) (j:keyOf as y=keyOf as x) (q:∀(i a l:Nat),(hK x)[i]? =some a->(hK y)[i]? =some l->as a=as l->f a=f l)
  (A:∀w,w∈hK x\/w∈hK y->0<=as w):Au y f h=Au x f h:=by
 have m:y.op=x.op:=congrArg (·.1) j;have o:Jv as (hK y) 0=Jv as (hK x) 0:=congrArg (·.2.1) j;have p:Jv as (hK y) 1=Jv as (hK x) 1:=congrArg (·.2.2.1) j;have r:(if y.op=2 then y.n else 0)=if x.op=2 then x.n else 0:=congrArg (·.2.2.2) j
 rw [qZ]at hp;have k:∀z:Vl,z.op=x.op->hK z=if two x.op=true then[z.a,z.b] else if nq x.op=true then[z.a] else[]:=λz t=>by
  unfold hK;rw[t,if_neg (by omega),if_neg (by omega)]
 have u:x.op≠2->f y.a=f x.a:=λg=>by
  have h0:(hK x)[0]? =some x.a/\(hK y)[0]? =some y.a:=by
   rw[k x rfl,k y m];by_cases ht:two x.op=true
   ·rw[if_pos ht,if_pos ht];exact⟨rfl,rfl⟩
   ·rw [if_neg ht,if_neg ht];have s:nq x.op=true:=by
     unfold two at ht;unfold nq;simp only[KO,vH,CU,Cw]at ht⊢;omega
    rw[if_pos s,if_pos s];exact⟨rfl,rfl⟩
  refine(q 0 _ _ h0.1 h0.2 ?_).symm;unfold Jv at o;rw[h0.1,h0.2]at o;exact o.symm
 have v:two x.op=true->f y.b=f x.b:=λht=>by
  have h0:(hK x)[1]? =some x.b/\(hK y)[1]? =some y.b:=by
   rw[k x rfl,k y m,if_pos ht,if_pos ht];exact⟨rfl,rfl⟩
  refine(q 1 _ _ h0.1 h0.2 ?_).symm;unfold Jv at p;rw[h0.1,h0.2]at p;exact p.symm
 unfold Au;rw[m];by_cases g:x.op=2
 ·rw[if_pos g,if_pos g];rw[if_pos (by omega),if_pos g]at r;rw[r]
 rw[if_neg g,if_neg g,u g];by_cases c:x.op=15
 ·rw[if_pos c,if_pos c]
 rw[if_neg c,if_neg c];by_cases d:x.op=16
 ·rw[if_pos d,if_pos d]
 rw[if_neg d,if_neg d,if_neg (show ¬x.op=17 by omega),if_neg (show ¬x.op=17 by omega),if_neg (show ¬x.op=18 by omega),if_neg (show ¬x.op=18 by omega)];by_cases e:x.op=8\/x.op=9
 ·rw[if_pos e,if_pos e]
 ·rw [if_neg e,if_neg e,v (by
   unfold two;simp only[KO,vH,CU,Cw];omega)]
theorem TW{u:U} (g:Good u) {a v b k c j:Nat} (d:zE u a c j) (hv:At u v c j) (f:zE u v b k) (hb:b<u.blocks.length):zE u a b k:=by
 obtain⟨i,m,a1,d⟩:=d;obtain⟨c2,p,a2,f⟩:=f;obtain⟨rfl,rfl⟩:=g.FQ _ _ _ _ _ hv a2;refine⟨i,m,a1,?_⟩;rcases d with⟨rfl,d⟩|⟨n,d⟩ <;> rcases f with⟨rfl,f⟩|⟨h,f⟩
 ·exact .inl ⟨rfl,by omega⟩
 ·exact .inr ⟨h,f⟩
 ·exact .inr ⟨n,d⟩
 ·refine .inr ⟨λe=>?_,d.trans f⟩;subst e;obtain⟨l,o⟩:=g.reach _ hb;exact h (f.W6 d o)
theorem XW{u:U} (g:Good u) {a v b k c j:Nat} (hb:b<u.blocks.length) (h:At u a b k) (hv:At u v c j) (e:zE u a c j) (d:zE u v b k):False:=by
 obtain⟨n,o,a1,e⟩:=e;obtain⟨rfl,rfl⟩:=g.FQ _ _ _ _ _ h a1;obtain⟨c2,p,a2,d⟩:=d;obtain⟨rfl,rfl⟩:=g.FQ _ _ _ _ _ hv a2;rcases e with⟨rfl,e⟩|⟨i,e⟩
 ·rcases d with⟨_,d⟩|⟨f,_⟩
  ·omega
  ·exact f rfl
 ·rcases d with⟨rfl,_⟩|⟨f,d⟩
  ·exact i rfl
  ·obtain⟨l,m⟩:=g.reach _ hb;exact f (d.W6 e m)
structure zfl (u:U) (as:Nat->Int) (hp:List Int) (b k:Nat) (s:Rs):Prop where
 heap:s.heap=hp
 eqn:∀(v:Nat) (x:Vl),u.ej[v]? =some x->j6 x.op=true->zE u v b k->s.of v=Au x s.of hp
 same:∀v w:Nat,as v=(w:Int)->zE u v b k->s.of w=s.of v
theorem Yu{u : U} (g:Good u) {as:Nat->Int} (d:NK u as) (aa:∀v,u.ej.length<=v->as v = -1) (ai:∀(v:Nat) (x:Vl),u.ej[v]? =some x->x.op≠19/\x.op≠20) (locals:List Int) (gY:Int) (fuel Gj:Nat) (heap:List Int) :
    (runM u locals gY fuel Gj none 0 (yT u heap)).As (runM (jo u as) locals gY fuel Gj none 0 (yT (jo u as) heap)):=by
  have aj:∀{v b k:Nat},At u v b k->b<u.blocks.length:=λ⟨B,h,_⟩=>(ki.1 h).1;have n:∀{v:Nat} {x:Vl},u.ej[v]? =some x->gM u v=true->j6 x.op=false:=λ{v x} hx N=>by
    unfold gM at N;rw[hx]at N;unfold iO at N;rw[KO,Cw,Cw]at N
    cases hq:j6 x.op with
    |false=>rfl
    |true=>rw[qZ]at hq;omega
  have Q:∀{t:Nat} {T:Bk} {pG:Option Nat} {s:Rs},u.blocks[t]? =some T->s.val.length=u.ej.length->∀v,(v ∉ T.ej.takeWhile (gM u))->(ou u locals pG T s).of v=s.of v:=by
    intro t T pG s J O v hv;show(yS s.val _).getD v 0=_;rw[EB _ _ λw hw=>by
      obtain⟨k,hk⟩:=oY.1 (List.takeWhile_subset _ hw);rw[O];exact g.ko w t k ⟨T,J,hk⟩,if_neg hv]
    rfl
  have ak:∀{t:Nat} {T:Bk} {v c j:Nat},u.blocks[t]? =some T->At u v c j->v∈T.ej.takeWhile (gM u)->c=t/\gM u v=true:=by
    intro t T v c j J f hv;obtain⟨k,hk⟩:=oY.1 (List.takeWhile_subset _ hv);exact⟨(g.FQ _ _ _ _ _ f ⟨T,J,hk⟩).1,KT hv⟩
  have E:∀{t:Nat} {T:Bk} {v j:Nat},u.blocks[t]? =some T->At u v t j->j<(T.ej.takeWhile (gM u)).length->gM u v=true:=by
    intro t T v j J f hj;obtain⟨T',K,D⟩:=f;rw[J]at K;cases K;have e:=wA6 (p:=gM u) (l:=T.ej);rw[<-e,Rk hj]at D;exact KT (DG D)
  have L:∀{v w:Nat},gM u v=true->v<u.ej.length->as v=(w:Int)->w=v:=by
    intro v w N hv e;have hx:=iy hv;have:=d.stay v _ hx (n hx N);omega
  refine zbk g (d.fit g aa) (I:=zfl u as heap) ⟨λB hB=>?_,λb t B T s hB J ht F O=>?_,λb k v x s s1 f hx N F O H=>?_,λb k w r s F _ hs e=>F.same w r e hs⟩ (λv _ _ x _ hx hs=>?_) Gj
  ·have hd:∀{v:Nat},zE u v 0 (B.ej.takeWhile (gM u)).length->gM u v=true/\v<u.ej.length:=λ{v} ⟨c,j,f,hc⟩=>by
     refine⟨?_,g.ko _ _ _ f⟩;rcases hc with⟨rfl,hj⟩|⟨m,V⟩
     ·exact E hB f hj
     ·have:=V _ .nil
      exact absurd (by simpa using this) m
   refine⟨rfl,λv x hx hp hs=>?_,λv w e hs=>?_⟩
   ·rw[n hx (hd hs).1]at hp;cases hp
   ·rw[L (hd hs).1 (hd hs).2 e]
  ·have al:t∈next u b:=by unfold next;rw[hB];exact ht
   have W:=(ki.1 hB).1;have am:=(ki.1 J).1;have ab:({s with steps:=s.steps+1}:Rs).val.length=u.ej.length:=O;have y6:∀{v c j:Nat},At u v c j->(c=t/\j<(T.ej.takeWhile (gM u)).length\/c≠t/\o0 (next u) c t)->gM u v≠true->c≠t/\zE u v b B.ej.length:=by
     intro v c j f hc hn;rcases hc with⟨rfl,hj⟩|⟨m,V⟩
     ·exact absurd (E J f hj) hn
     ·refine⟨m,EU hB ⟨c,j,f,λl O=>?_⟩⟩
      have:=V _ (.step O al);rcases IS.1 this with h|h
      ·exact absurd h m
      ·exact h
   have fj:∀{v c j:Nat},At u v c j->c≠t->(ou u locals (some b) T {s with steps:=s.steps+1}).of v=s.of v:=λ{v c j} f m=>Q J ab v λh=>m (ak J f h).1;refine⟨F.heap,λv x hx hp hs=>?_,λv w e hs=>?_⟩
   ·obtain ⟨c,j,f,hc⟩:=id hs
    obtain⟨m,o⟩:=y6 f hc λh=>by rw[n hx h]at hp;cases hp
    have an:x.op≠21:=by rw[qZ]at hp;omega
    rw[fj f m,F.eqn v x hx hp o];refine I1 hp λa G=>?_;obtain⟨c',j',ac,ao⟩:=g.GM v c j x f hx an a G;refine(fj ac λe=>?_).symm;subst e;rcases ao with⟨e,_⟩|⟨ax,ap⟩
    ·exact m e.symm
    ·rcases hc with⟨e,_⟩|⟨_,hd⟩
     ·exact m e
     ·obtain⟨l,O⟩:=g.reach _ am
      exact m (hd.W6 ap O)
   ·obtain ⟨c,j,f,hc⟩:=id hs
    by_cases N:gM u v=true
    ·rw[L N (g.ko _ _ _ f) e]
    ·obtain ⟨m,o⟩:=y6 f hc N
     obtain⟨w',K,_,_,X⟩:=d.pos (g.ko _ _ _ f);obtain rfl:w=w':=by omega
     rcases X with rfl|⟨_,y,R,ae⟩
     ·rfl
     ·rw[fj f m,Q J ab w λh=>by rw[n R (KT h)]at ae;cases ae]
      exact F.same v w e o
  ·have W := aj f
   have ag:=g.ko _ _ _ f;obtain⟨n1,n2⟩:=ai v x hx;have other:∀z,z≠v->s1.of z=s.of z:=λz C=>by
     unfold ym at H;rw[if_neg n1,if_neg n2]at H
     repeat' split at H
     all_goals cases H
     all_goals first|rfl|exact(En (by rw[O];exact ag)).trans (if_neg C)
   have Y:s1.heap=heap:=by
     unfold ym at H;rw[if_neg n1,if_neg n2]at H
     repeat' split at H
     all_goals first|(cases H;exact F.heap)|cases H
   have self:j6 x.op=true->s1.of v=Au x s.of heap:=λhp=>by
     rw[qZ]at hp;unfold ym at H;rw[if_neg n1,if_neg n2,if_neg (by omega),if_neg (by omega)]at H;cases H;rw[<-F.heap];exact(En (by rw[O];exact ag)).trans (if_pos rfl)
   have cut:∀{z:Nat},zE u z b (k+1)->z=v\/(z≠v/\zE u z b k):=λ{z} ⟨c,j,C,hc⟩=>by
     by_cases e:z=v
     ·exact .inl e
     refine .inr ⟨e,c,j,C,?_⟩;rcases hc with⟨rfl,hj⟩|hc
     ·refine .inl ⟨rfl,?_⟩
      by_cases hjk:j=k
      ·subst hjk
       obtain⟨B,K,D⟩:=f;obtain⟨B',Z,X⟩:=C;rw[K]at Z;cases Z;rw[D]at X;exact absurd (Option.some.inj X).symm e
      ·omega
     ·exact .inr hc
   have M:∀{z c j:Nat},At u z c j->zE u z b k->∀{a},zE u a c j->a≠v:=λ{z c j} C hs {a} G e=>by
     subst e;exact XW g W f C G hs
   have A:∀{w z c j:Nat},Gm u w z->At u z c j->zE u w c j:=λ{w z c j} ⟨c1,j1,b1,k1,K,D,Z⟩ C=>by
     obtain⟨rfl,rfl⟩:=g.FQ _ _ _ _ _ C D;exact⟨c1,j1,K,Z⟩
   have par:∀{z:Nat} {y:Vl} {c j:Nat},u.ej[z]? =some y->j6 y.op=true->At u z c j->∀a∈hK y,zE u a c j:=λ{z y c j} R hp C a G=>g.GM z c j y C R (by rw[qZ]at hp;omega) a G;refine⟨Y,λz y R hp hs=>?_,λz w e hs=>?_⟩
   ·rcases cut hs with rfl|⟨m,o⟩
    ·rw[hx]at R;cases R
     rw[self hp];refine I1 hp λa G=>(other a λe=>?_).symm;subst e;obtain⟨c,j,K,D⟩:=par hx hp f a G;obtain⟨rfl,rfl⟩:=g.FQ _ _ _ _ _ f K;rcases D with⟨_,D⟩|⟨D,_⟩
     ·omega
     ·exact D rfl
    ·rw[other z m,F.eqn z y R hp o]
     obtain⟨c,j,C,_⟩:=id o;exact I1 hp λa G=>(other a (M C o (par R hp C a G))).symm
   ·rcases cut hs with rfl|⟨m,o⟩
    ·cases hp:j6 x.op with
     | false=>
       have:=d.stay z x hx hp;obtain rfl:w=z:=by omega
       rfl
     | true =>
       rcases d.num z x hx hp with⟨h,_⟩|⟨w',y,K,D,Z,X,h5,h6⟩
       ·obtain rfl:w=z:=by omega
        rfl
       ·obtain rfl:w=w':=by omega
        have P:=A h5 f;have aq:w≠z:=λe=>by
          subst e;obtain⟨c,j,g1,g2⟩:=P;obtain⟨rfl,rfl⟩:=g.FQ _ _ _ _ _ f g1;rcases g2 with⟨_,g2⟩|⟨g2,_⟩
          ·omega
          ·exact g2 rfl
        rw[other w aq,self hp,F.eqn w y D Z P];obtain⟨cw,jw,S,_⟩:=id P;refine XY hp h6 (λi a a' G ar au=>?_) λa G=>?_
        ·have sa:=par hx hp f a (DG G)
         have aw:=TW g (par D Z S a' (DG ar)) S P W;obtain⟨_,_,ah,_⟩:=id sa;obtain⟨r,g1,_⟩:=d.pos (g.ko _ _ _ ah);rw[<-F.same a r g1 sa,<-F.same a' r (by rw[<-au];exact g1) aw]
        ·have:a<u.ej.length:=by
           rcases G with h|h
           ·obtain⟨_,q,_⟩:=g.use z x hx a h
            exact(ki.1 q).1
           ·obtain⟨_,q,_⟩:=g.use w y D a h
            exact(ki.1 q).1
         obtain⟨r,g1,_⟩:=d.pos this;omega
    ·rw[other z m]
     obtain⟨c,j,C,_⟩:=id o;obtain⟨w',K,_,_,X⟩:=d.pos (g.ko _ _ _ C);obtain rfl:w=w':=by omega
     rcases X with rfl|⟨h5,_⟩
     ·exact other w m
     ·rw[other w (M C o (A h5 C))]
      exact F.same z w e o
  ·have hv:=(ki.1 hx).1
   cases hp:j6 x.op with
   | false=>
     have:=d.stay v x hx hp;unfold stays at hs;rw[this,beq_self_eq_true]at hs
     cases hs
   | true=>
     rw[qZ]at hp;omega
open Dm
abbrev oR:=Nat×Int×Int×Int
theorem wJ{as a:Nat->Int} {x:Vl} (h:∀w∈hK x,a w=as w):keyOf a x=keyOf as x:=by
 grind[Jv,hK,DG,keyOf]
def KR(u:U) (P O:Nat->Prop) (as:Nat->Int) (k:oR) (w:Nat):Prop:=∃y c i,P w/\u.ej[w]? =some y/\j6 y.op=true/\as w=(w:Int)/\At u w c i/\O c/\keyOf as y=k
structure NW (u:U) (P O:Nat->Prop) (as:Nat->Int) (S:oR->Option Nat):Prop where
 stay:∀v,v<u.ej.length->¬P v->as v=(v:Int)
 imp:∀(v:Nat) (x:Vl),u.ej[v]? =some x->j6 x.op=false->as v=(v:Int)
 num:∀(v:Nat) (x:Vl),P v->u.ej[v]? =some x->j6 x.op=true->
  (as v=(v:Int)/\∀(w:Nat) (y:Vl),u.ej[w]? =some y->j6 y.op=true->as w=(w:Int)->Gm u w v->keyOf as y≠keyOf as x)\/
  ∃(w:Nat) (y:Vl),as v=(w:Int)/\u.ej[w]? =some y/\j6 y.op=true/\as w=(w:Int)/\Gm u w v/\keyOf as y=keyOf as x
 closed:∀v w,P v->Gm u w v->P w
 known:∀k w,S k=some w↔KR u P O as k w
def DY(u:U)(P:Nat->Prop)(as:Nat->Int)(c:Nat)(l:List oR):Prop:=∀k,k∈l↔∃w,KR u P (·= c) as k w
def Pv(u:U)(KQ:Nat->Prop)(b k v:Nat):Prop:=∃c i,At u v c i/\(KQ c\/c=b/\i<k)
section
variable{u:U}(g:Good u){KQ O:Nat->Prop}{as:Nat->Int}{S:oR->Option Nat}{b k v:Nat}{x:Vl}
include g
theorem Jj{w p c i:Nat} {y:Vl} (a:At u w c i) (b:u.ej[w]? =some y) (hp:j6 y.op=true) (h:p∈hK y):Gm u p w:=by
 rw[qZ]at hp;obtain⟨c',j,d,e⟩:=g.GM w c i y a b (by omega) p h;exact⟨c',j,c,i,d,a,e⟩
theorem NW.part{P:Nat->Prop} (n:NW u P O as S) {w p:Nat} {y:Vl} (a:P w) (b:u.ej[w]? =some y) (hp:j6 y.op=true) (h:p∈hK y):P p:=by
 obtain⟨c,i,hc⟩:=g.Ef w (by grind) trivial;exact n.closed w p a (by grind[Jj])
theorem GO(hb:¬KQ b) (hv:At u v b k) (KX:∀c,c≠b->o0 (next u) c b->KQ c) {w:Nat} (h:Gm u w v):Pv u KQ b k w:=by
 obtain⟨c,j,i,k',d,e,a⟩:=h;obtain⟨rfl,rfl⟩:=g.FQ _ _ _ _ _ hv e;rcases a with⟨rfl,a⟩|⟨a,f⟩
 ·exact⟨c,j,d,.inr ⟨rfl,a⟩⟩
 ·exact⟨c,j,d,.inl (KX c a f)⟩
theorem I0(hb:¬KQ b) (hv:At u v b k):¬Pv u KQ b k v:=λ⟨c,i,a,d⟩=>by
 obtain⟨rfl,rfl⟩:=g.FQ _ _ _ _ _ hv a
 simp_all
omit g in
theorem AH (hv:At u v b k) (w:Nat):Pv u KQ b (k+1) w↔Pv u KQ b k w\/w=v:=by
 constructor
 ·rintro ⟨c,i,h1,h2|⟨rfl,h2⟩⟩
  ·exact .inl ⟨c,i,h1,.inl h2⟩
  ·by_cases e:i=k
   ·subst e;obtain⟨B,e1,e2⟩:=h1;obtain⟨B',e3,e4⟩:=hv
    simp_all
   ·exact .inl ⟨c,i,h1,.inr ⟨rfl,by omega⟩⟩
 ·rintro(⟨c,i,h1,h2⟩|rfl)
  ·exact⟨c,i,h1,h2.imp id λh=>⟨h.1,by omega⟩⟩
  ·exact⟨b,k,hv,.inr ⟨rfl,by omega⟩⟩
theorem NW.step(n:NW u (Pv u KQ b k) O as S) (hb:¬KQ b) (hv:At u v b k) (hx:u.ej[v]? =some x) (KX:∀c,c≠b->o0 (next u) c b->KQ c) {a:Nat->Int} (t:∀w,w≠v->a w=as w) {S':oR->Option Nat}
  (E:j6 x.op=false->a v=(v:Int))
  (F:j6 x.op=true->(a v=(v:Int)/\∀(w:Nat) (y:Vl),u.ej[w]? =some y->j6 y.op=true->as w=(w:Int)->Gm u w v->keyOf as y≠keyOf as x)\/
   ∃(w:Nat) (y:Vl),a v=(w:Int)/\u.ej[w]? =some y/\j6 y.op=true/\as w=(w:Int)/\Gm u w v/\keyOf as y=keyOf as x)
  (H:∀l w,S' l=some w↔S l=some w\/(w=v/\j6 x.op=true/\a v=(v:Int)/\O b/\keyOf as x=l)):NW u (Pv u KQ b (k+1)) O a S':=by
 have I:=I0 g hb hv;have m:∀w,Pv u KQ b k w->a w=as w:=by grind
 have h:∀{w y},Pv u KQ b k w->u.ej[w]? =some y->j6 y.op=true->keyOf a y=keyOf as y:=λd q hp=>wJ λp z=>m p (n.part g d q hp z);have G:j6 x.op=true->keyOf a x=keyOf as x:=by grind[wJ,GO,Jj]
 refine⟨λw J d=>?_,λw y q hp=>?_,λw y d q hp=>?_,λw w' d C=>?_,λl w=>?_⟩
 ·rw[AH hv]at d;rw[t w (by omega)];exact n.stay w J (by simp_all)
 ·by_cases e:w=v
  ·simp_all
  ·rw[t w e];exact n.imp w y q hp
 ·rw [AH hv]at d;rcases d with d|rfl
  ·rw [m w d,h d q hp];rcases n.num w y d q hp with⟨f,j⟩|⟨w',K,f,j,o,r,s,A⟩
   ·refine .inl ⟨f,λw' K L z M C=>?_⟩;have D:=n.closed w w' d C
    grind
   ·have D:=n.closed w w' d s
    grind
  grind[GO]
 ·rw[AH hv]at d⊢;rcases d with d|rfl
  ·exact .inl (n.closed w w' d C)
  grind[GO]
 ·rw [H,n.known];constructor
  ·rintro(⟨y,c,i,f,j,o,r,s,A,B⟩|⟨rfl,f,j,o,r⟩)
   ·exact⟨y,c,i,(AH hv w).2 (.inl f),j,o,by rw[m w f];exact r,s,A,by rw[h f j o];exact B⟩
   ·exact⟨x,b,k,(AH hv w).2 (.inr rfl),hx,f,j,hv,o,by simp_all⟩
  ·rintro⟨y,c,i,f,j,o,r,s,A,B⟩;rcases(AH hv w).1 f with f|rfl
   ·rw[m w f]at r;rw[h f j o]at B;exact .inl ⟨y,c,i,f,j,o,r,s,A,B⟩
   ·rw[hx]at j;cases j;obtain⟨rfl,rfl⟩:=g.FQ _ _ _ _ _ hv s
    simp_all
section
variable (n:NW u (Pv u KQ b k) O as S)(hb:¬KQ b)(hv:At u v b k)(hx:u.ej[v]? =some x)(KX:∀c,c≠b->o0 (next u) c b->KQ c)(hO:∀c,O c↔o0 (next u) c b)
include n hb hv hx KX
theorem NW.skip(hp:j6 x.op=false):NW u (Pv u KQ b (k+1)) O as S:=
 n.step g hb hv hx KX (by omega) (λ_=>n.stay v (by grind) (I0 g hb hv)) (by simp_all) (by simp_all)
include hO
theorem NW.there(hp:j6 x.op=true) {w:Nat} (hs:S (keyOf as x)=some w) {a:Nat->Int} (j:a v=(w:Int)) (d:∀w,w≠v->a w=as w):NW u (Pv u KQ b (k+1)) O a S:=by
 have l:=I0 g hb hv;obtain⟨y,c,i,m,o,p,q,f,A,r⟩:=(n.known _ _).1 hs;have s:w≠v:=by grind
 refine n.step g hb hv hx KX d (by simp_all) (λ_=> .inr ⟨w,y,j,o,p,q,⟨c,i,b,k,f,hv,?_⟩,r⟩) λt w'=>⟨.inl,λh=>h.elim id λh=>?_⟩
 ·by_cases e:c=b
  ·subst e;obtain⟨c',B,z,C⟩:=m;obtain⟨rfl,rfl⟩:=g.FQ _ _ _ _ _ f z
   simp_all
  simp_all
 omega
theorem NW.fresh(hp:j6 x.op=true) (hs:S (keyOf as x)=none) {S':oR->Option Nat} (l:S' (keyOf as x)=some v) (r:∀k,k≠keyOf as x->S' k=S k):NW u (Pv u KQ b (k+1)) O as S':=by
 have a:=n.stay v (by grind) (I0 g hb hv);refine n.step g hb hv hx KX (by omega) (by omega) (λ_=> .inl ⟨a,λw y m d o i p=>?_⟩) λf w=>?_
 ·have q:=GO g hb hv KX i;obtain⟨c,j,s,k',a1,a2,a3⟩:=i;obtain⟨rfl,rfl⟩:=g.FQ _ _ _ _ _ hv a2;have:S (keyOf as x)=some w:=(n.known _ _).2 ⟨y,c,j,q,m,d,o,a1,(hO c).2 (a3.elim (λh=>by rw[h.1];exact o0.self _ _) λh=>h.2),p⟩
  simp_all
 ·by_cases e:f=keyOf as x
  ·subst e;rw[l,hs];exact⟨λh=> .inr ⟨(Option.some.inj h).symm,hp,a,(by grind[o0.self]),rfl⟩,by simp_all⟩
  grind
end
theorem DY.step{c:Nat} {l:List oR} (a:DY u (Pv u KQ b k) as c l) (hb:¬KQ b) (hv:At u v b k) (hx:u.ej[v]? =some x) (q:∀w y,Pv u KQ b k w->u.ej[w]? =some y->j6 y.op=true->∀p∈hK y,Pv u KQ b k p) (r:j6 x.op=true->∀p∈hK x,Pv u KQ b k p) {e:Nat->Int} (z:∀w,w≠v->e w=as w)
  {t:List oR} (A:∀d,d∈t↔d∈l\/(c=b/\j6 x.op=true/\e v=(v:Int)/\keyOf as x=d)):DY u (Pv u KQ b (k+1)) e c t:=by
 have B:=I0 g hb hv;have j:∀w,Pv u KQ b k w->e w=as w:=by grind
 intro d;rw[A,a d];constructor
 ·rintro(⟨w,y,c',i,f,h,m,s,n,rfl,o⟩|⟨rfl,f,h,m⟩)
  ·exact⟨w,y,c',i,(by grind[AH]),h,m,by simp_all,n,rfl,by grind[wJ]⟩
  ·exact⟨v,x,c,k,(AH hv v).2 (.inr rfl),hx,f,h,hv,rfl,by grind[wJ]⟩
 ·rintro⟨w,y,c',i,f,h,m,s,n,rfl,o⟩;rcases(AH hv w).1 f with f|rfl
  ·rw[j w f]at s;rw[wJ λp hp=>j p (q w y f h m p hp)]at o;exact .inl ⟨w,y,c',i,f,h,m,s,n,rfl,o⟩
  ·rw[hx]at h;cases h;obtain⟨rfl,rfl⟩:=g.FQ _ _ _ _ _ hv n;rw[wJ λp hp=>j p (r m p hp)]at o
   simp_all
end
open Dm
def kd(u:U)(I:Nat->Nat)(b:Nat):List Nat:=(List.range u.blocks.length).filter λt=>t != 0&&I t == b
theorem NA{u:U} {I:Nat->Nat} {b t:Nat}:t∈kd u I b↔t<u.blocks.length/\t≠0/\I t=b:=by
 simp_all[kd,Rl,ZG,vH,wB6,Cw]
theorem Zl(u:U)(I:Nat->Nat)(b:Nat):(kd u I b).Nodup:=List.nodup_range.filter _
def TI(u:U)(vl:List Nat)(v:Nat):Prop:=∃c i,At u v c i/\c∈vl
theorem Q9{u:U}{vl:List Nat}{b:Nat}:Pv u (·∈vl) b 0=TI u vl:=funext λ_=>propext ⟨λ⟨c,i,a,d⟩=>⟨c,i,a,d.elim id λh=>by omega⟩,λ⟨c,i,a,d⟩=>⟨c,i,a,.inl d⟩⟩
theorem zcF{u:U} {vl:List Nat} {b:Nat} {B:Bk} (e:u.blocks[b]? =some B):Pv u (·∈vl) b B.ej.length=TI u (b::vl):=funext λv=>propext ⟨λ⟨c,i,a,d⟩=>⟨c,i,a,IS.2 (d.elim .inr λh=> .inl h.1)⟩,λ⟨c,i,a,d⟩=>⟨c,i,a,(IS.1 d).elim (λh=> .inr ⟨h,by
  subst h;obtain⟨f,g,j⟩:=a
  grind⟩) .inl⟩⟩
theorem KR.mono{u:U}{P O a:Nat->Prop}{as:Nat->Int}{k:oR}{w:Nat}(h:∀c,O c->a c):KR u P O as k w->KR u P a as k w:=λ⟨y,c,i,b,d,e,f,g,j,l⟩=>⟨y,c,i,b,d,e,f,g,h c j,l⟩
structure NS (u:U) (I:Nat->Nat) (as:Nat->Int) (S:oR->Option Nat) (st:List (Nat×Nat×List oR)) (vl:List Nat):Prop where
 nw:NW u (TI u vl) (λc=>c∈st.map (·.1)) as S
 add:∀f∈st,DY u (TI u vl) as f.1 f.2.2
 nd:vl.Nodup
 vlt:∀b∈vl,b<u.blocks.length
 par:∀t∈vl,t≠0->I t∈vl
 cl:∀b∈vl,b ∉ st.map (·.1)->∀t∈kd u I b,t∈vl
 fr:∀f∈st,f.2.1<=(kd u I f.1).length/\∀(j t:Nat),(kd u I f.1)[j]? =some t->(t∈vl↔j<f.2.1)
 sv:∀f∈st,f.1∈vl
 sn:(st.map (·.1)).Nodup
 ch:∀pre f post,st=pre++f::post->∀c,c∈pre.map (·.1)\/c=f.1↔qo I c f.1
 zero:0∈vl
section
variable{u:U}{I:Nat->Nat}{as:Nat->Int}{S:oR->Option Nat}{pre st:List (Nat×Nat×List oR)}{vl:List Nat}{b m:Nat}{l:List oR}
theorem NS.pop(g:Good u) (n:NS u I as S (pre++[(b,m,l)]) vl) (D:m=(kd u I b).length) {S':oR->Option Nat} (C:∀k,S' k=if k∈l then none else S k):NS u I as S' pre vl:=by
 have a:=n.sn;rw[Lj,ZL]at a;have hb:b ∉ pre.map (·.1):=by grind
 have hi:∀{f},f∈pre->f∈pre++[(b,m,l)]:=by simp_all
 have v:(b,m,l)∈pre++[(b,m,l)]:=by simp_all
 refine⟨⟨n.nw.stay,n.nw.imp,n.nw.num,n.nw.closed,λk w=>?_⟩,λf h=>n.add f (hi h),n.nd,n.vlt,n.par,λc hc E t ht=>?_,λf h=>n.fr f (hi h),λf h=>n.sv f (hi h),a.1,λp f q e=>n.ch p f (q++[(b,m,l)]) (by simp_all),n.zero⟩
 ·rw [C];by_cases hk:k∈l
  ·rw[if_pos hk];obtain⟨w',d⟩:=(n.add _ v k).1 hk;have s:=(n.nw.known k w').2 (d.mono (by simp_all));refine⟨by simp_all,λh=>?_⟩;have o:=(n.nw.known k w).2 (h.mono (by simp_all));rw[s]at o;cases o;obtain⟨_,c,i,_,_,_,_,a1,a2,_⟩:=d;obtain⟨_,c',F,_,_,_,_,b1,b2,_⟩:=h;obtain⟨rfl,rfl⟩:=g.FQ _ _ _ _ _ a1 b1
   simp_all
  ·rw [if_neg hk,n.nw.known];constructor
   ·rintro⟨y,c,i,d,s,o,x,z,r,A⟩;refine⟨y,c,i,d,s,o,x,z,?_,A⟩;rw[Lj]at r;rcases He.1 r with r|r
    ·exact r
    ·obtain rfl:c=b:=by simp_all
     exact absurd ((n.add _ v k).2 ⟨w,y,c,i,d,s,o,x,z,rfl,A⟩) hk
   grind[KR.mono,SN]
 ·by_cases e:c=b
  ·subst e;obtain⟨j,B⟩:=oY.1 ht;have:=(ki.1 B).1;exact((n.fr _ v).2 j t B).2 (by simp_all)
  ·exact n.cl c hc (by simp_all) t ht
section
variable (n:NS u I as S (pre++[(b,m,l)]) vl){t:Nat}(ht:(kd u I b)[m]? =some t)
include n ht
theorem NS.new:t ∉ vl/\t<u.blocks.length/\t≠0/\I t=b:=by
 have a:=(n.fr (b,m,l) (by simp_all)).2 m t ht;obtain⟨c,d,e⟩:=NA.1 (DG ht)
 simp_all
theorem NS.anc(c:Nat):(c∈(pre++[(b,m,l)]).map (·.1)\/c=t)↔qo I c t:=by
 obtain ⟨_,_,a,d⟩:=n.new ht;have h:=n.ch pre (b,m,l) [] rfl c;have h':c∈(pre++[(b,m,l)]).map (·.1)↔qo I c b:=by
  rw[<-h,Lj,He];simp
 rw[h'];constructor
 ·rintro(h|rfl)
  ·exact .up a (by simp_all)
  ·exact .refl _
 ·intro h
  cases h with
  |refl=>omega
  |up _ h=>simp_all
theorem NS.ready(g:Good u):NW u (Pv u (·∈vl) t 0) (λc=>c∈(pre++[(b,m,l)]).map (·.1)\/c=t) as S:=by
 rw[Q9];obtain⟨j,_⟩:=n.new ht;refine⟨n.nw.stay,n.nw.imp,n.nw.num,n.nw.closed,λk w=>?_⟩;rw[n.nw.known];refine⟨KR.mono λ_=> .inl,λ⟨y,c,i,a1,a2,a3,d,a,f,h⟩=>⟨y,c,i,a1,a2,a3,d,a,f.elim id λe=>?_,h⟩⟩;subst e;obtain⟨c',o,b1,b2⟩:=a1;obtain⟨rfl,rfl⟩:=g.FQ _ _ _ _ _ a b1
 simp_all
theorem NS.push(g:Good u) {d:Nat->Int} {S':oR->Option Nat} {i:List oR} (V:NW u (TI u (t::vl)) (λc=>c∈(pre++[(b,m,l)]).map (·.1)\/c=t) d S') (K:DY u (TI u (t::vl)) d t i) (G:∀c l,c≠t->DY u (TI u vl) as c l->DY u (TI u (t::vl)) d c l) :
  NS u I d S' (pre++[(b,m+1,l)]++[(t,0,i)]) (t::vl):=by
 obtain⟨y,W,t3,t4⟩:=n.new ht;have A:(b,m,l)∈pre++[(b,m,l)]:=by simp_all
 have v:=n.sn;have H:=v;rw[Lj,ZL]at v;have hb:b ∉ pre.map (·.1):=by grind
 have L:b∈vl:=n.sv _ A;have w:∀c,c∈(pre++[(b,m+1,l)]++[(t,0,i)]:List (Nat×Nat×List oR)).map (·.1)↔c∈(pre++[(b,m,l)]).map (·.1)\/c=t:=by grind
 have M:t ∉ (pre++[(b,m,l)]).map (·.1):=λh=>by
  obtain⟨f,x,N⟩:=MI.1 h;exact y (N▸n.sv f x)
 have a:∀{P:Nat×Nat×List oR->Prop},(∀f∈pre,P f)->P (b,m+1,l)->P (t,0,i)->∀f∈pre++[(b,m+1,l)]++[(t,0,i)],P f:=by grind
 have hi:∀{f},f∈pre->f∈pre++[(b,m,l)]:=by grind
 have B:∀{f},f∈pre->f.1≠t:=by grind
 have O:∀{f},f∈pre->f.1≠b:=by grind
 have C:b≠t:=by grind
 refine⟨?_,a (λf k=>G _ _ (B k) (n.add f (hi k))) (show DY u (TI u (t::vl)) d b l from G _ _ C (n.add _ A)) K,List.nodup_cons.2 ⟨y,n.nd⟩,λc hc=>(IS.1 hc).elim (by omega) (n.vlt c),λc hc h0=>?_,λc hc Q s hs=>?_,a (λf k=>⟨(n.fr f (hi k)).1,λj s r=>?_⟩) ⟨?_,λj s r=>?_⟩ ⟨Mj _,λj s r=>?_⟩,a (λf k=>wBX _ (n.sv f (hi k))) (by grind) (by simp),?_,λp f q e c=>?_,wBX _ n.zero⟩
 ·have:(λc=>c∈(pre++[(b,m+1,l)]++[(t,0,i)]:List (Nat×Nat×List oR)).map (·.1))=λc=>c∈(pre++[(b,m,l)]).map (·.1)\/c=t:=funext (by grind)
  grind
 ·rcases IS.1 hc with rfl|hc
  ·grind
  ·exact wBX _ (n.par c hc h0)
 ·rw[w]at Q;rcases IS.1 hc with rfl|hc
  ·omega
  ·exact wBX _ (n.cl c hc (by grind) s hs)
 ·have x:=(n.fr f (hi k)).2 j s r;rw[<-x,IS];refine⟨λh=>h.elim (λe=>?_) id,.inr⟩;subst e;have:=(NA.1 (DG r)).2.2
  grind
 ·grind
 ·have x:=(n.fr _ A).2 j s r;show s∈t::vl↔j<m+1;rw[IS,x];constructor
  ·rintro(rfl|h)
   ·grind[yZ,Zl]
   grind
  grind
 ·obtain⟨X,R,S⟩:=NA.1 (DG r);refine⟨λh=>?_,by grind⟩;rcases IS.1 h with rfl|h
  ·omega
  ·exact absurd (show t∈vl from(show I s=t from S)▸n.par s h R) y
 ·grind
 ·rcases List.eq_nil_or_concat q with rfl|⟨D,z,rfl⟩
  ·obtain⟨E,F⟩:=List.append_inj' e rfl;cases F;rw[<-E,<-n.anc ht c];simp
  ·have J:pre++[(b,m+1,l)]=p++f::D:=by
    have:pre++[(b,m+1,l)]++[(t,0,i)]=(p++f::D)++[z]:=by rw[e];simp
    exact(List.append_inj' this rfl).1
   rcases List.eq_nil_or_concat D with rfl|⟨o,T,rfl⟩
   ·obtain⟨E,F⟩:=List.append_inj' J rfl;cases F;subst E;exact n.ch pre (b,m,l) [] rfl c
   ·have U:pre=p++f::o:=by
     have:pre++[(b,m+1,l)]=(p++f::o)++[T]:=by rw[J];simp
     exact(List.append_inj' this rfl).1
    exact n.ch p f (o++[(b,m,l)]) (by grind) c
end
theorem nw0(u:U) {as:Nat->Int} (h:∀v,v<u.ej.length->as v=(v:Int)):NW u (Pv u (·∈([]:List Nat)) 0 0) (λc=>c=0) as (λ_=>none):=by
 have hp:∀v,¬Pv u (·∈([]:List Nat)) 0 0 v:=λv ⟨c,i,_,a⟩=>by
  simp_all
 exact⟨by simp_all,by grind,by simp_all,by simp_all,λk w=>⟨by simp_all,λ⟨_,_,_,b,_⟩=>by simp_all⟩⟩
theorem zbY{nx:Nat->List Nat}{c:Nat}:c=0↔o0 nx c 0:=⟨by grind[o0.self],λh=>by simpa using h [0] .nil⟩
theorem NS.start(g:Good u) {l:List oR} (k:NW u (TI u [0]) (λc=>c=0) as S) (m:DY u (TI u [0]) as 0 l) (n:∀b,b≠0->b<u.blocks.length->I b≠b):NS u I as S [(0,0,l)] [0]:=by
 have nb:=g.MH;refine⟨?_,by simp_all,by simp,by grind,by simp_all,λb hb o=>?_,λf d=>?_,by simp_all,by simp,λpre f post e c=>?_,by simp⟩
 ·simp_all
 ·simp_all
 ·rw[QJ.1 d];refine⟨Mj _,λj t i=>⟨λh=>?_,by simp_all⟩⟩;exact absurd (QJ.1 h) (NA.1 (DG i)).2.1
 ·have hp:pre=[]:=by
   cases pre with
   |nil=>rfl
   |cons a pre=>simp_all
  subst hp;obtain⟨rfl,rfl⟩:=List.cons.inj e;refine⟨λh=>h.elim (by simp_all) λh=>h▸ .refl _,λh=>?_⟩
  cases h with
  |refl=>omega
  |up h0 _=>omega
theorem NS.done(g:Good u) {G:Gr} (a:Tree G I (λb=>b<u.blocks.length)) (n:NS u I as S [] vl):NK u as:=by
 have all:∀k b,G.place b<=k->b<u.blocks.length->b∈vl:=by
  intro k
  induction k with
  | zero=>
    intro b c hb;by_cases h0:b=0
    ·subst h0;exact n.zero
    ·have:=(a.up b hb h0).2;omega
  | succ k d=>
    intro b c hb;by_cases h0:b=0
    ·subst h0;exact n.zero
    ·obtain⟨e,f⟩:=a.up b hb h0
     exact n.cl _ (by grind) (by simp) b (NA.2 ⟨hb,h0,rfl⟩)
 have hP:∀v,v<u.ej.length->TI u vl v:=λv hv=>by
  obtain⟨b,k,h⟩:=g.Ef v hv trivial;exact⟨b,k,h,all _ b (jO _) (let⟨_,hB,_⟩:=h;(by grind))⟩
 exact⟨n.nw.imp,λv x hx hp=>n.nw.num v x (by grind) hx hp⟩
theorem NS.le(n:NS u I as S st vl):vl.length<=u.blocks.length:=by
 exact jM _ vl n.nd n.vlt
end
open Dm
def Ao(v:Nat)(x:Vl):Vl:=if x.op=19\/x.op=20 then⟨2,0,0,(v:Int),[],0⟩ else x
def Ce(u:U):U:={u with ej:=u.ej.mapIdx Ao}
theorem G6{v:Nat}{x:Vl}(h:¬(x.op=19\/x.op=20)):Ao v x=x:=if_neg h
theorem Lh{v:Nat}{x:Vl}(h:x.op=19\/x.op=20):Ao v x=⟨2,0,0,(v:Int),[],0⟩:=if_pos h
theorem RZ{u:U} {v:Nat} {x:Vl} (h:u.ej[v]? =some x):(Ce u).ej[v]? =some (Ao v x):=by
 show(u.ej.mapIdx Ao)[v]? =_
 simp_all
theorem Nj{u:U} {v:Nat} {y:Vl} (h:(Ce u).ej[v]? =some y):∃x,u.ej[v]? =some x/\y=Ao v x:=by
 have h:(u.ej.mapIdx Ao)[v]? =some y:=h
 grind
theorem qD{u:U} {v:Nat} {y:Vl} (h:(Ce u).ej[v]? =some y):u.ej[v]? =some y\/y=⟨2,0,0,(v:Int),[],0⟩:=by
 obtain⟨x,a,rfl⟩:=Nj h
 grind[Lh,G6]
theorem Jt{u:U} {w:Nat} (h:vD u w):vD (Ce u) w:=by
 obtain⟨x,b,a⟩:=h;have:=RZ b;rw[G6 (by rintro(c|c) <;> rw[c]at a <;> cases a)]at this;exact⟨x,this,a⟩
theorem WC{u:U} (g:Good u):Good (Ce u) where
 nv:=by show(u.ej.mapIdx Ao).length<=_;rw[List.length_mapIdx];exact g.nv
 MH:=g.MH
 nb:=g.nb
 ns:=g.ns
 st:=λs fs h=>by
  obtain⟨e,a,d⟩:=g.st s fs h
  grind[Jt]
 Ef:=λv h _=>g.Ef v (by have h:v<(u.ej.mapIdx Ao).length:=h;simp_all) trivial
 FQ:=g.FQ
 ko:=λv b k h=>by show v<(u.ej.mapIdx Ao).length;rw[List.length_mapIdx];exact g.ko v b k h
 II:=λv w b k x y e a d f i=>by
  rcases qD d with d|rfl
  ·rcases qD f with f|rfl
   ·exact g.II v w b k x y e a d f i
   ·obtain ⟨z,n,o⟩:=Nj f;by_cases c:z.op=19\/z.op=20
    ·have:=g.II v w b k x z e a d n i;unfold iO at this
     grind
    ·rw[G6 c]at o;exact g.II v w b k x _ e a d (o▸n) i
  ·cases i
 par:=λv b k x e a d=>by
  rcases qD a with a|rfl
  ·exact g.par v b k x e a d
  ·cases d
 KN:=λv b k x B e a d f=>by
  rcases qD a with a|rfl
  ·exact g.KN v b k x B e a d f
  ·cases d
 op:=λv x h=>by
  rcases qD h with h|rfl
  ·exact g.op v x h
  simp_all
 use:=λv x h w l=>by
  rcases qD h with h|rfl
  ·exact Jt (g.use v x h w l)
  grind[absurd,hK,two,nq]
 leave:=λv x h q=>by
  rcases qD h with h|rfl
  ·exact g.leave v x h q
  ·cases q
 putAt:=λv x h m=>by
  rcases qD h with h|rfl
  ·exact g.putAt v x h m
  ·cases m
 param:=λv x h m=>by
  rcases qD h with h|rfl
  ·obtain⟨e,a,d⟩:=g.param v x h m;refine⟨e,a,λw y r t=>?_⟩;rcases qD r with r|rfl
   ·simp_all
   simp_all
  ·cases m
 fin:=λb B h=>by
  rcases g.fin b B h with h|⟨e,a,d⟩|h
  ·omega
  ·grind[Jt]
  ·exact .inr (.inr h)
 nx:=g.nx
 fi:=g.fi
 Hf:=g.Hf
 Lz:=g.Lz
 reach:=g.reach
 GM:=λv b k x e a d w l=>by
  rcases qD a with a|rfl
  ·exact g.GM v b k x e a d w l
  grind[absurd,hK,two,nq]
 L1:=λv b k x B e a d f j w p i A=>by
  rcases qD a with a|rfl
  ·exact g.L1 v b k x B e a d f j w p i A
  ·cases d
 Md:=λv b k x fs e a d f w l=>by
  rcases qD a with a|rfl
  ·exact g.Md v b k x fs e a d f w l
  ·cases d
 L8:=g.L8
 L4:=g.L4
