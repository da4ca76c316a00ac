/- Parts. -/
import Derived.Test.YtloecllhljfidaaDoorM13
set_option maxHeartbeats 4000000
namespace Go.Proofs.YtloecllhljfidaaDoor.Un
open Dm
def kZ(l:List Nat):List Nat:=l.foldl (λa s=>if s∈a then a else a++[s]) []
theorem vU(l:List Nat) (s:Nat):kZ (l++[s])=if s∈kZ l then kZ l else kZ l++[s]:=by
 grind[kZ]
theorem Lo{P:List Nat->Prop} (h0:P []) (hs:∀l s,P l->P (l++[s])) (l:List Nat):P l:=by
 have:∀r:List Nat,P r.reverse:=λr=>by
  induction r <;> grind
 rw[<-List.reverse_reverse l]
 grind
theorem rG(l:List Nat):∀x,x∈kZ l↔x∈l:=by
 induction l using Lo with
 |h0=>exact λ_=>Iff.rfl
 | hs l s a=>
   grind[vU,Me,id]
theorem Og(l:List Nat):(kZ l).Nodup:=by
 induction l using Lo with
 |h0=>exact List.nodup_nil
 | hs l s a=>
   grind[vU,Zq,ZO,List.nodup_nil,Me]
theorem Eg{l:List Nat} {x:Nat} (h:x∈l):l[l.idxOf x]? =some x:=by
 grind
theorem oG{l:List Nat} (a:l.Nodup) {i j x:Nat} (hi:l[i]? =some x) (b:l[j]? =some x):i=j:=by
 grind[jk,ZZ,wBj,absurd]
theorem zbt{l:List Nat}(a:l.Nodup){i x:Nat}(h:l[i]? =some x):l.idxOf x=i:=by grind
theorem N7{l:List Nat} {x y:Nat} (hx:x∈l) (a:y∈l) (h:l.idxOf x=l.idxOf y):x=y:=by
 grind[Eg,Option.some.inj]
theorem JR{p:Nat->Bool}:∀{l:List Nat} {k v:Nat},l[k]? =some v->p v=true->(l.filter p)[((l.take k).filter p).length]? =some v
 |[],k,v,h,_=>by simp_all
 | a::l,0,v,h,hp=>by
   simp_all
 | a::l,k+1,v,h,hp=>by
   have b:=JR (l:=l) (k:=k) (by simp_all) hp
   grind
theorem Zh{p:Nat->Bool} {l:List Nat} {j k w:Nat} (h:l[j]? =some w) (b:p w=true) (a:j<k):((l.take j).filter p).length<((l.take k).filter p).length:=by
 obtain ⟨c,rfl⟩:=jk.1 h;have e:l.take k=l.take j++l[j]::((l.take k).drop (j+1)):=by
  conv=>lhs;rw[<-VY j (l.take k)]
  rw[List.take_take,wBy (by omega)];congr 1;rw[VV (by grind),List.getElem_take]
 grind
section
variable (u:U)(as:Nat->Int)
def stays(v:Nat):Bool:=as v == (v:Int)
def fu:List Nat:=u.blocks.flatMap λB=>B.ef.filter (stays as)
def vy:Nat->Nat->Nat
 |0,v=>v
 |k+1,v=>if 0<=as v/\as v≠(v:Int) then vy k (as v).toNat else v
def nm(v:Nat):Nat:=if vy as (u.ef.length+1) v∈fu u as then(fu u as).idxOf (vy as (u.ef.length+1) v) else 0
def IQ:List Nat:=(fu u as).filterMap (λn=>match u.ef[n]? with
  |some x=>if leaves x.op=true then some x.state else none
  |none=>none)++u.blocks.filterMap λB=>if B.fin=3 then some B.state else none
def El:List Nat:=kZ (IQ u as)
def gW(x:Vl):Vl where
 op:=x.op
 a:=if 0<(if two x.op=true then 2 else if pe x.op=true then 1 else 0) then nm u as x.a else x.a
 b:=if two x.op=true then nm u as x.b else x.b
 n:=x.n
 args:=if x.op=21\/x.op=20 then x.args.map (nm u as) else x.args
 state:=if leaves x.op=true then(El u as).idxOf x.state else x.state
def lM(B:Bk):Bk where
 ef:=(B.ef.filter (stays as)).map (fu u as).idxOf
 fin:=B.fin
 cond:=if B.fin=2 then nm u as B.cond else B.cond
 next:=B.next
 ez:=B.ez
 state:=if B.fin=3 then(El u as).idxOf B.state else B.state
def VG(f:Fm):Fm:=⟨f.func,f.pc,f.locals.map (nm u as),f.stack.map (nm u as)⟩
def gG:U where
 func:=u.func
 pc:=u.pc
 ef:=(fu u as).map λn=>gW u as (u.ef.getD n ⟨0,0,0,0,[],0⟩)
 blocks:=u.blocks.map (lM u as)
 eh:=(El u as).map λs=>(u.eh.getD s []).map (VG u as)
end
def YC(u:U):Prop:=∀(v:Nat) (b:Nat) (k:Nat) (b':Nat) (k':Nat),At u v b k->At u v b' k'->b=b'/\k=k'
theorem Gk{u:U} (c:YC u) {b:Nat} {B:Bk} (a:u.blocks[b]? =some B):B.ef.Nodup:=by
 refine ZZ.2 λi j hi d f e=>?_;have g:At u B.ef[i] b i:=⟨B,a,g0 hi⟩
 have h:At u B.ef[i] b j:=⟨B,a,by rw[e];exact g0 d⟩
 have:=(c _ _ _ _ _ g h).2;omega
theorem xO{u:U} {as:Nat->Int} (f:YC u):(fu u as).Nodup:=by
 unfold fu;have b:∀(l:List Bk) (i:Nat),(∀k B,l[k]? =some B->u.blocks[i+k]? =some B)->(l.flatMap λB=>B.ef.filter (stays as)).Nodup:=by
  intro l
  induction l with
  |nil=>simp_all
  | cons B l g=>
    intro i h;rw[List.flatMap_cons,Zq];have j:u.blocks[i]? =some B:=h 0 B rfl;refine⟨by grind[Gk],g (i+1) λk C hk=>by rw[show i+1+k=i+(k+1) by omega];simp_all,λa m c hc e=>?_⟩;subst e;obtain⟨C,n,d⟩:=Tu.1 hc;obtain⟨k,hk⟩:=mr.1 n;obtain⟨o,p⟩:=mr.1 (HS.1 m).1;obtain⟨q,r⟩:=mr.1 (HS.1 d).1;have:=(f a i o (i+(k+1)) q ⟨B,j,p⟩ ⟨C,h (k+1) C (by simpa using hk),r⟩).1;omega
 exact b u.blocks 0 (by simp_all)
theorem Pt.short{nx:Nat->List Nat} {x:Nat}:∀{b l},Pt nx b l->x∈l->x≠b->∃a,Pt nx x a/\a.length<l.length
 | _,_,.nil,h,hn=>by
   simp_all
 | _,_,.step (p:=p) (b:=b) (l:=l) h e,hx,hn=>by
   rcases FZ.1 hx with rfl|hx
   ·omega
   ·by_cases hp:x=p
    ·subst hp
     exact⟨l,h,by simp⟩
    ·obtain⟨a,c,d⟩:=Pt.short h hx hp
     exact⟨a,c,by simp;omega⟩
theorem kV.Yi{nx:Nat->List Nat} {a b:Nat} (c:kV nx a b) (d:kV nx b a) {l:List Nat} (e:Pt nx b l):a=b:=by
 have f:∀n (l:List Nat),l.length<=n->(Pt nx b l->a≠b->False)/\(Pt nx a l->a≠b->False):=by
  intro n
  induction n with
  | zero=>
    intro l e;have:l=[]:=by simp_all
    subst this
    exact⟨λh _=>(nomatch h),λh _=>(nomatch h)⟩
  | succ n m=>
    intro l e;refine⟨λh g=>?_,λh g=>?_⟩
    ·obtain⟨i,j,k⟩:=h.short (c l h) g
     grind
    ·obtain⟨i,j,k⟩:=h.short (d l h) g.symm
     grind
 by_cases h:a=b
 ·exact h
 ·exact((f l.length l (jb _)).1 e h).elim
theorem kV.trans{nx:Nat->List Nat} {a b c:Nat} (f:kV nx a b) (i:kV nx b c):kV nx a c:=λl g=>by
 have d:∀{y l},Pt nx y l->b∈l->a∈l:=by
  intro y l j
  induction j with
  | nil=>
    intro hb;obtain rfl:b=0:=by simp_all
    exact f _ .nil
  | step h e k=>
    intro hb;rcases FZ.1 hb with rfl|hb
    ·exact f _ (.step h e)
    simp_all
 exact d g (i l g)
structure Fit (u:U) (as:Nat->Int):Prop where
 root:∀v,v<u.ef.length->0<=as v->∃w:Nat,as v=(w:Int)/\w<u.ef.length/\as w=(w:Int)
 up:∀(v w b k:Nat),as v=(w:Int)->At u v b k->∃c j,At u w c j/\(c=b/\j<=k\/c≠b/\kV (next u) c b)
 zbm:∀(v w:Nat),as v=(w:Int)->mq u v->mq u w
 use:∀(v:Nat) (x:Vl),u.ef[v]? =some x->stays as v=true->∀w∈gO x,0<=as w
 st:∀(v:Nat) (x:Vl) (fs:List Fm),u.ef[v]? =some x->stays as v=true->leaves x.op=true->u.eh[x.state]? =some fs->∀w∈ic fs,0<=as w
 cond:∀(b:Nat) (B:Bk),u.blocks[b]? =some B->B.fin=2->0<=as B.cond
 out:∀(b:Nat) (B:Bk) (fs:List Fm),u.blocks[b]? =some B->B.fin=3->u.eh[B.state]? =some fs->∀w∈ic fs,0<=as w
class T2 (P:Nat->Prop) (as:Nat->Int):Prop where
 h:∀v,stays as v=true->P v
instance (as:Nat->Int):T2 (λ_=>True) as:=⟨λ_ _=>trivial⟩
instance (as:Nat->Int):T2 (λv=>stays as v=true) as:=⟨λ_ h=>h⟩
section
variable{u:U}{P:Nat->Prop}{as:Nat->Int}[hP:T2 P as] (g:Gd u P)(f:Fit u as)
include g
theorem iJ{v:Nat}:v∈fu u as↔v<u.ef.length/\stays as v=true:=by
 unfold fu;rw[Tu];constructor
 ·rintro⟨B,d,hv⟩;obtain⟨a,c⟩:=HS.1 hv;obtain⟨b,hb⟩:=mr.1 d;obtain⟨k,hk⟩:=mr.1 a;exact⟨g.jz v b k ⟨B,hb,hk⟩,c⟩
 ·rintro⟨a,c⟩;obtain⟨b,k,B,hb,hk⟩:=g.xM v a (hP.h v c)
  grind
theorem Ez{b:Nat}{B:Bk}(a:u.blocks[b]? =some B):B.ef.Nodup:=Gk g.AH a
omit hP in
theorem zy:(fu u as).Nodup:=xO g.AH
omit g in
include f in
theorem ZQ {v:Nat} (hv:v<u.ef.length) (h0:0<=as v):∃w:Nat,vy as (u.ef.length+1) v=w/\as v=(w:Int)/\w<u.ef.length/\as w=(w:Int):=by
 obtain⟨w,h1,h2,h3⟩:=f.root v hv h0;refine⟨w,?_,h1,h2,h3⟩;unfold vy;split
 ·rename_i h;rw[h1];show vy as u.ef.length w=w;cases u.ef.length <;> simp_all[vy,if_neg]
 omega
include f
theorem Ui{v:Nat} (hv:v<u.ef.length) (h0:0<=as v):∃w:Nat,as v=(w:Int)/\w∈fu u as/\nm u as v=(fu u as).idxOf w:=by
 obtain⟨w,d,a,b,e⟩:=ZQ f hv h0;have c:w∈fu u as:=(iJ g).2 ⟨b,by simp_all[stays]⟩;exact⟨w,a,c,by simp_all[nm,if_pos]⟩
omit f g
theorem OF{i n:Nat} {x:Vl} (hi:(fu u as)[i]? =some n) (hx:u.ef[n]? =some x):(gG u as).ef[i]? =some (gW u as x):=by
 show((fu u as).map _)[i]? =_
 simp_all
theorem Ai(g:Gd u P) {i:Nat} {y:Vl} (h:(gG u as).ef[i]? =some y):∃n x,(fu u as)[i]? =some n/\u.ef[n]? =some x/\y=gW u as x/\stays as n=true:=by
 have h:((fu u as).map _)[i]? =some y:=h;rw[xk]at h
 cases hn:(fu u as)[i]? with
 |none=>simp_all
 | some n=>
   obtain⟨a,b⟩:=(iJ g).1 (yC hn)
   simp_all
theorem SP{b:Nat} {B:Bk} (a:u.blocks[b]? =some B):(gG u as).blocks[b]? =some (lM u as B):=by
 show(u.blocks.map _)[b]? =_
 simp_all
theorem CW{b:Nat} {a:Bk} (h:(gG u as).blocks[b]? =some a):∃B,u.blocks[b]? =some B/\a=lM u as B:=by
 have h:(u.blocks.map _)[b]? =some a:=h
 grind
theorem Wg(b:Nat):next (gG u as) b=next u b:=by
 unfold next
 cases hb:u.blocks[b]? with
 | none=>
   grind[gG]
 |some B=>rw[SP hb];rfl
theorem NA:next (gG u as)=next u:=funext Wg
theorem I7{h:Bk->Bk} (a:∀B,(h B).next=B.next) (b:Nat):∀(l:List Bk) (i:Nat),jv (l.map h) i b=jv l i b
 |[],_=>rfl
 | B::l,i=>by
   show((h B).next.filter (·= b)).map (λ_=>i)++jv (l.map h) (i+1) b=_;rw[a,I7 a b l];rfl
theorem Oc(b:Nat):ahead (gG u as) b=ahead u b:=I7 (h:=lM u as) (λ_=>rfl) b u.blocks 0
def pk(u:U) (as:Nat->Int) (b k:Nat):Nat:=match u.blocks[b]? with
 |some B=>((B.ef.take k).filter (stays as)).length
 |none=>0
theorem zaN{v b k:Nat} (h:At u v b k) (hs:stays as v=true):At (gG u as) ((fu u as).idxOf v) b (pk u as b k):=by
 obtain⟨B,a,hv⟩:=h;refine⟨_,SP a,?_⟩;show((B.ef.filter (stays as)).map _)[pk u as b k]? =_
 grind[pk,JR]
theorem zan{v b j k:Nat} (h:At u v b j) (hs:stays as v=true) (a:j<k):pk u as b j<pk u as b k:=by
 obtain⟨B,c,hv⟩:=h
 simp_all[pk,Zh]
theorem GW(g:Gd u P) {i b k:Nat} (h:At (gG u as) i b k):∃v j,At u v b j/\stays as v=true/\i=(fu u as).idxOf v/\k=pk u as b j/\(fu u as)[i]? =some v:=by
 obtain⟨m,c,hi⟩:=h;obtain⟨B,e,rfl⟩:=CW c;have hi:((B.ef.filter (stays as)).map _)[k]? =some i:=hi;rw[xk]at hi
 cases hv:(B.ef.filter (stays as))[k]? with
 |none=>simp_all
 | some v=>
   rw[hv]at hi;obtain rfl:(fu u as).idxOf v=i:=Option.some.inj hi;obtain⟨l,d⟩:=HS.1 (yC hv);obtain⟨j,f⟩:=mr.1 l;have a:At u v b j:=⟨B,e,f⟩
   refine⟨v,j,a,d,rfl,?_,Eg ((iJ g).2 ⟨g.jz _ _ _ a,d⟩)⟩;unfold pk;rw[e];exact oG (by grind[Ez]) hv (JR f d)
theorem X0(x:Vl):gO (gW u as x)=(gO x).map (nm u as):=by
 unfold gO;show(if x.op=21 then(gW u as x).args else if x.op=20 then(gW u as x).a::(gW u as x).b::(gW u as x).args.take 1 else if two x.op=true then[(gW u as x).a,(gW u as x).b] else if pe x.op=true then[(gW u as x).a] else[])=_;unfold gW;simp only;by_cases c:x.op=21
 ·simp[c]
 ·rw[if_neg c,if_neg c];by_cases d:x.op=20
  ·simp_all[if_pos,two,List.map_take]
  grind
include g f
theorem Kg{w:Nat} (h:mq u w) (h0:0<=as w):mq (gG u as) (nm u as w):=by
 obtain⟨x,hx,_⟩:=id h;obtain⟨r,a,b,c⟩:=Ui g f (by grind) h0;obtain⟨y,d,e⟩:=f.zbm w r a h;exact⟨gW u as y,by rw[c];exact OF (Eg b) d,e⟩
theorem WN{w b k:Nat} (h:zh u w b k) (hb:b<u.blocks.length) (h0:0<=as w):zh (gG u as) (nm u as w) b (pk u as b k):=by
 obtain⟨c,j,d,hc⟩:=h;obtain⟨r,s,t,y⟩:=Ui g f (g.jz _ _ _ d) h0;obtain⟨c',v,i,m⟩:=f.up w r c j s d;have hs:=((iJ g).1 t).2;refine⟨c',pk u as c' v,by grind[zaN],?_⟩;rw[NA];rcases hc with⟨rfl,z⟩|⟨o,q⟩
 ·rcases m with⟨rfl,p⟩|⟨n,a⟩
  ·exact .inl ⟨rfl,zan i hs (by omega)⟩
  simp_all
 ·rcases m with⟨rfl,p⟩|⟨n,a⟩
  ·simp_all
  ·refine .inr ⟨λe=>?_,a.trans q⟩;subst e;obtain⟨l,x⟩:=g.reach c' hb;exact o (q.Yi a x)
theorem II{w b:Nat} (h:rC u w b) (h0:0<=as w):rC (gG u as) (nm u as w) b:=by
 obtain⟨c,j,a,i⟩:=h;obtain⟨r,l,n,o⟩:=Ui g f (g.jz _ _ _ a) h0;obtain⟨c',m,k,d⟩:=f.up w r c j l a;refine⟨c',pk u as c' m,by grind[zaN,iJ],?_⟩;rw[NA];rcases d with⟨rfl,_⟩|⟨_,e⟩
 ·exact i
 ·exact e.trans i
omit f in
theorem Is {s:Nat} (h:s∈IQ u as):s<u.eh.length/\((∃(v b k:Nat) (x:Vl),At u v b k/\stays as v=true/\u.ef[v]? =some x/\leaves x.op=true/\x.state=s)\/∃(b:Nat) (B:Bk),u.blocks[b]? =some B/\B.fin=3/\B.state=s):=by
 unfold IQ at h;rcases Bm.1 h with h|h
 ·obtain⟨n,hn,hs⟩:=List.mem_filterMap.1 h;obtain⟨h1,hs1⟩:=(iJ g).1 hn;have hx:=g0 h1;rw[hx]at hs;simp only at hs;split at hs
  ·rename_i hl;cases hs;obtain⟨b,k,Mf⟩:=g.xM n h1 (hP.h n hs1);exact⟨g.leave n _ hx hl,by grind⟩
  ·cases hs
 ·obtain ⟨B,hB,hs⟩:=List.mem_filterMap.1 h;obtain⟨b,hb⟩:=mr.1 hB;split at hs
  ·rename_i h3;cases hs;refine⟨?_,by grind⟩;rcases g.fin b B hb with⟨h4,_⟩|⟨h4,_⟩|⟨_,_,h4⟩
   ·omega
   ·omega
   ·exact h4
  ·cases hs
omit g f in
theorem Rr {s:Nat} {fs:List Fm} (h:s∈El u as) (hs:u.eh[s]? =some fs):(gG u as).eh[(El u as).idxOf s]? =some (fs.map (VG u as)):=by
 show((El u as).map _)[_]? =_
 grind
omit f in
theorem zaG {i:Nat} {gs:List Fm} (h:(gG u as).eh[i]? =some gs):∃s fs,s∈El u as/\u.eh[s]? =some fs/\gs=fs.map (VG u as):=by
 have h:((El u as).map _)[i]? =some gs:=h;rw[xk]at h
 cases hn:(El u as)[i]? with
 |none=>simp_all
 | some s=>
   rw[hn]at h;have hm:s∈El u as:=yC hn;have hl:=(Is g ((rG _ _).1 hm)).1
   grind
omit g f in
theorem K8 (fs:List Fm):ic (fs.map (VG u as))=(ic fs).map (nm u as):=by
 unfold ic;rw[List.flatMap_map,List.map_flatMap];congr 1;funext x;rw[MA];rfl
omit f in
theorem zcq {v:Nat} {x:Vl} (hs:stays as v=true) (hx:u.ef[v]? =some x) (hl:leaves x.op=true):x.state∈El u as:=by
 refine(rG _ _).2 (My _ (List.mem_filterMap.2 ⟨v,by grind[iJ,jk],?_⟩))
 simp_all
omit g f in
theorem zbb {b:Nat} {B:Bk} (hB:u.blocks[b]? =some B) (h3:B.fin=3):B.state∈El u as:=
 (rG _ _).2 (wBt _ (List.mem_filterMap.2 ⟨B,yC hB,by rw[if_pos h3]⟩))
omit f in
theorem SX {v b k:Nat} {x:Vl} (h:At u v b k) (hx:u.ef[v]? =some x) (hh:iF x.op=true):∀{w j:Nat} {y:Vl},At u w b j->u.ef[w]? =some y->j<=k->iF y.op=true:=by
 have key:∀(n v k:Nat) (x:Vl),At u v b k->u.ef[v]? =some x->iF x.op=true->∀{w j:Nat} {y:Vl},At u w b j->u.ef[w]? =some y->j+n=k->iF y.op=true:=by
  intro n
  induction n with
  | zero=>
    intro v k x h hx hh w j y hw hy e;obtain rfl:j=k:=by omega
    obtain⟨B,h1,h2⟩:=h;obtain⟨B',h3,h4⟩:=hw
    simp_all
  | succ n ih=>
    intro v k x h hx hh w j y hw hy e;obtain⟨k,rfl⟩:∃i,k=i+1:=⟨k-1,by omega⟩
    obtain⟨B,h1,h2⟩:=h;have hk:k<B.ef.length:=by have:=(jk.1 h2).1;omega
    have h3:At u (B.ef[k]) b k:=⟨B,h1,g0 hk⟩
    have hz:=g0 (g.jz _ _ _ h3);exact ih _ k _ h3 hz (g.uS _ _ _ _ _ _ ⟨B,h1,h2⟩ h3 hx hz hh) hw hy (by omega)
 exact λ{w j y} hw hy hj=>key (k-j) v k x h hx hh hw hy (by omega)
theorem IF:Good (gG u as):=by
 have hL:(fu u as).length<=u.ef.length:=jr _ _ (zy g) λv h=>((iJ g).1 h).1;have hS:(El u as).length<=u.eh.length:=jr _ _ (Og _) λs hs=>(Is g ((rG _ _).1 hs)).1;have hlen:(gG u as).ef.length=(fu u as).length:=by
  show((fu u as).map _).length=_;rw[B5]
 have J:(gG u as).blocks.length=u.blocks.length:=by
  show(u.blocks.map _).length=_;rw[B5]
 have M:(gG u as).eh.length=(El u as).length:=by
  show((El u as).map _).length=_;rw[B5]
 have V:∀s fs,s∈El u as->u.eh[s]? =some fs->∀w∈ic fs,0<=as w:=by
  intro s fs hs q w e;rcases(Is g ((rG _ _).1 hs)).2 with⟨v,b,k,x,_,a,I,C,rfl⟩|⟨b,B,c,a,rfl⟩
  ·exact f.st v x fs I a C q w e
  ·exact f.out b B fs c a q w e
 have l:∀{i b k:Nat} {y:Vl},At (gG u as) i b k->(gG u as).ef[i]? =some y->∃v j x,At u v b j/\stays as v=true/\i=(fu u as).idxOf v/\k=pk u as b j/\u.ef[v]? =some x/\y=gW u as x:=by
  intro i b k y N m;obtain⟨v,j,c,a,I,C,r⟩:=GW g N;obtain⟨n,x,L,T,W,_⟩:=Ai g m;rw[r]at L;cases L;exact by grind
 have S:∀{v b k:Nat},At u v b k->b<u.blocks.length:=λ⟨B,h,_⟩=>(jk.1 h).1
 refine
  { nv:=by rw[hlen];have:=g.nv;omega
    JN:=by rw[J];exact g.JN
    nb:=by rw[J];exact g.nb
    ns:=by rw[M];have:=g.ns;omega
    st:=?_,xM:=?_,AH:=?_,jz:=?_,uS:=?_,par:=?_,Ae:=?_,op:=?_,use:=?_,leave:=?_,putAt:=?_,param:=?_,fin:=?_,nx:=?_,ez:=?_,yA:=?_,DN:=?_,reach:=?_,xG:=?_,zE:=?_,Cn:=?_,zO:=?_,Cf:=?_}
 ·intro s gs hs;obtain⟨s0,fs,c,a,rfl⟩:=zaG g hs;obtain⟨I,C,r⟩:=g.st s0 fs a;refine⟨by simpa using I,by simpa using C,λf' X=>?_⟩;obtain⟨O,Y,rfl⟩:=GL.1 X;obtain⟨Z,h7,h8,h9⟩:=r O Y;have ag:∀w,w∈O.locals\/w∈O.stack->0<=as w:=λw e=>V s0 fs c a w (by
   grind[ic])
  refine⟨by show(O.locals.map _).length<=40;simpa using Z,by show(O.stack.map _).length<=60;simpa using h7,λv hv=>?_,λv hv=>?_⟩
  ·obtain⟨w,e,rfl⟩:=GL.1 (show v∈O.locals.map (nm u as) from hv)
   grind[Kg]
  ·obtain⟨w,e,rfl⟩:=GL.1 (show v∈O.stack.map (nm u as) from hv)
   grind[Kg]
 ·intro i hi _;rw[hlen]at hi;have hn:=g0 hi;obtain⟨c,a⟩:=(iJ g).1 (yC hn);obtain⟨b,k,N⟩:=g.xM _ c (hP.h _ a);refine⟨b,pk u as b k,?_⟩;have:=zaN N a
  grind[zbt,zy]
 ·intro i b k b' k' h h';obtain⟨v,j,c,a,I,C,r⟩:=GW g h;obtain⟨v',j',L,T,W,g4,U⟩:=GW g h';rw[r]at U;cases U;obtain⟨rfl,rfl⟩:=g.AH _ _ _ _ _ c L;omega
 ·grind[GW,jk]
 ·intro i i' b k y y' h h' m aa hh;obtain⟨v,j,x,c,a,_,C,r,rfl⟩:=l h m;obtain⟨v',j',x',L,T,_,g4,U,rfl⟩:=l h' aa;show iF x'.op=true;refine SX g c r hh L U ?_
  grind[zan]
 ·intro i b k y h m F;obtain⟨v,j,x,c,_,_,_,r,rfl⟩:=l h m;exact g.par v b j x c r F
 ·intro i b k y R h m F d;obtain⟨v,j,x,c,_,_,_,r,rfl⟩:=l h m;obtain⟨B,A,rfl⟩:=CW d;obtain⟨Z,h7⟩:=g.Ae v b j x B c r F A;refine⟨Z,?_⟩;have D:x.op=21:=F;show(if x.op=21\/x.op=20 then x.args.map (nm u as) else x.args).length=B.ez.length
  simp_all
 ·intro i y m;obtain⟨n,x,_,a,rfl,_⟩:=Ai g m;exact g.op n x a
 ·intro i y m w e;obtain⟨n,x,_,a,rfl,C⟩:=Ai g m;rw[X0]at e;obtain⟨w0,o,rfl⟩:=GL.1 e;exact Kg g f (g.use n x a w0 o) (f.use n x a C w0 o)
 ·intro i y m hl;obtain⟨n,x,_,a,rfl,C⟩:=Ai g m;have E:leaves x.op=true:=hl;rw[M];show(if leaves x.op=true then(El u as).idxOf x.state else x.state)<_;rw[if_pos E]
  grind[wBl,zcq]
 ·intro i y m F;obtain⟨n,x,_,a,rfl,C⟩:=Ai g m;have D:x.op=20:=F;show(if x.op=21\/x.op=20 then x.args.map (nm u as) else x.args).length=1;rw[if_pos (.inr D),B5];exact g.putAt n x a D
 ·intro i y m F;obtain⟨n,x,c,a,rfl,C⟩:=Ai g m;obtain⟨L,T,W⟩:=g.param n x a F;refine⟨L,T,λw z hz ab ac=>?_⟩;obtain⟨n',x',ae,G,rfl,_⟩:=Ai g hz;obtain rfl:=W n' x' G ab ac;exact oG (zy g) ae c
 ·intro b R d;obtain⟨B,A,rfl⟩:=CW d;rcases g.fin b B A with⟨c,a⟩|⟨c,a,I⟩|⟨c,a,I⟩
  ·exact .inl ⟨c,a⟩
  ·refine .inr (.inl ⟨c,a,?_⟩);show mq _ (if B.fin=2 then nm u as B.cond else B.cond);rw[if_pos c];exact Kg g f I (f.cond b B A c)
  ·refine .inr (.inr ⟨c,a,?_⟩);rw[M];show(if B.fin=3 then(El u as).idxOf B.state else B.state)<_;rw[if_pos c];exact wBl (zbb A c)
 ·intro b t ht;rw[Wg]at ht;rw[J];exact g.nx b t ht
 ·intro b R d;obtain⟨B,A,rfl⟩:=CW d;rw[Oc];exact g.ez b B A
 ·rw[Oc];exact g.yA
 ·intro b R d a t ht;obtain⟨B,A,rfl⟩:=CW d;rw[Oc];exact g.DN b B A a t ht
 ·intro b hb;rw[J]at hb;rw[NA];exact g.reach b hb
 ·intro i b k y h m F w e;obtain⟨v,j,x,c,a,_,rfl,r,rfl⟩:=l h m;rw[X0]at e;obtain⟨w0,o,rfl⟩:=GL.1 e;exact WN g f (g.xG v b j x c r F w0 o) (S c) (f.use v x r a w0 o)
 ·intro i b k y R h m F d j w p e hp;obtain⟨v,j0,x,c,a,_,rfl,r,rfl⟩:=l h m;obtain⟨B,A,rfl⟩:=CW d;have D:x.op=21:=F;have e:(if x.op=21\/x.op=20 then x.args.map (nm u as) else x.args)[j]? =some w:=e;rw[if_pos (.inl D),xk]at e
  cases hq:x.args[j]? with
  |none=>simp_all
  | some w0=>
    rw[hq]at e;obtain rfl:nm u as w0=w:=Option.some.inj e;exact II g f (g.zE v b j0 x B c r D A j w0 p hq hp) (f.use v x r a w0 (by
      unfold gO
      grind))
 ·intro i b k y gs h m hl H w e;obtain⟨v,j,x,c,a,_,rfl,r,rfl⟩:=l h m;have E:leaves x.op=true:=hl;have P:(gW u as x).state=(El u as).idxOf x.state:=by
   show(if leaves x.op=true then _ else _)=_;rw[if_pos E]
  have Q:=g.leave v x r E;have q:=g0 Q;rw[P,Rr (by grind) q]at H;cases H;rw[K8]at e;obtain⟨w0,o,rfl⟩:=GL.1 e;exact WN g f (g.Cn v b j x _ c r E q w0 o) (S c) (f.st v x _ r a E q w0 o)
 ·intro b R d a;obtain⟨B,A,rfl⟩:=CW d;have G:B.fin=2:=a;show rC _ (if B.fin=2 then nm u as B.cond else B.cond) b;rw[if_pos G];exact II g f (g.zO b B A G) (f.cond b B A G)
 ·intro b R gs d I H w e;obtain⟨B,A,rfl⟩:=CW d;have K:B.fin=3:=I;have P:(lM u as B).state=(El u as).idxOf B.state:=by
   show(if B.fin=3 then _ else _)=_;rw[if_pos K]
  have Q:B.state<u.eh.length:=by
   rcases g.fin b B A with⟨C,_⟩|⟨C,_⟩|⟨_,_,C⟩
   ·omega
   ·omega
   ·exact C
  have q:=g0 Q;rw[P,Rr (zbb A K) q]at H;cases H;rw[K8]at e;obtain⟨w0,o,rfl⟩:=GL.1 e;exact II g f (g.Cf b B _ A K q w0 o) (f.out b B _ A K q w0 o)
end
open Dm
section
variable (u:U)(kp:Nat->Bool)
def jj(b:Nat):Nat:=if kp b=true then((List.range b).filter kp).length else 0
def qu(i:Nat)(ps:List Nat):List Nat:=(List.range ps.length).filter λj=>kp (ps.getD j 0)&&(next u (ps.getD j 0)).contains i
def jO(i:Nat)(ps:List Nat):List Nat:=(qu u kp i ps).map λj=>jj kp (ps.getD j 0)
def nq(i:Nat)(ps args:List Nat):List Nat:=(qu u kp i ps).map λj=>args.getD j 0
def Mo:Bk:=⟨[],0,0,[],[],0⟩
def lG:List Nat:=(List.range u.blocks.length).filter kp
def Bz(b:Nat):Bk:={u.blocks.getD b Mo with next:=(u.blocks.getD b Mo).next.map (jj kp),ez:=jO u kp b (u.blocks.getD b Mo).ez}
structure Cut (u':U):Prop where
 func:u'.func=u.func
 pc:u'.pc=u.pc
 eh:u'.eh=u.eh
 blocks:u'.blocks=(lG u kp).map (Bz u kp)
 len:u'.ef.length=u.ef.length
 Ae:∀(v b k:Nat) (x:Vl) (B:Bk),At u v b k->u.ef[v]? =some x->x.op=21->kp b=true->u.blocks[b]? =some B->u'.ef[v]? =some {x with args:=nq u kp b B.ez x.args}
 same:∀(v:Nat) (x:Vl),u.ef[v]? =some x->¬(x.op=21/\∃b k,At u v b k/\kp b=true)->u'.ef[v]? =some x
structure Ce (az iR:List Int):Prop where
 len:iR.length=az.length
 gone:∀(v b k:Nat),At u v b k->kp b=false->v<az.length->iR[v]? =some (-1)
 same:∀(v:Nat),(¬∃b k,At u v b k/\kp b=false)->iR[v]? =az[v]?
end
section
variable{u u':U}{kp:Nat->Bool}
theorem filter_all{p:Nat->Bool}{l:List Nat}(h:∀x∈l,p x=true):l.filter p=l:=List.filter_eq_self.2 h
theorem QR(hk:∀b,b<u.blocks.length->kp b=true) {b:Nat} (hb:b<u.blocks.length):jj kp b=b:=by
 unfold jj;rw[if_pos (hk b hb),filter_all (by grind),SB]
theorem M5(g:Good u) (hk:∀b,b<u.blocks.length->kp b=true) {b:Nat} {B:Bk} (d:u.blocks[b]? =some B):qu u kp b B.ez=List.range B.ez.length:=by
 unfold qu;refine filter_all λj a=>?_;have a:=Rf.1 a;rw[CM,g0 a];have e:B.ez[j]∈ahead u b:=by rw[<-g.ez b B d];exact EA a
 obtain⟨q,f,h,i,c⟩:=wA.1 e;rw[wO]at c;rw[Option.getD_some,c,hk q (by grind),Yl,wBG]
 grind[next]
theorem K5(l:List Nat) (d:Nat):(List.range l.length).map (λj=>l.getD j d)=l:=by
 refine So λj=>?_
 grind
theorem Rm(g:Good u) (hk:∀b,b<u.blocks.length->kp b=true) {b:Nat} {B:Bk} (c:u.blocks[b]? =some B):Bz u kp b=B:=by
 have e:u.blocks.getD b Mo=B:=by rw[CM,c];rfl
 unfold Bz;rw[e];have f:B.next.map (jj kp)=B.next:=by
  have:∀t∈B.next,jj kp t=t:=λt ht=>QR hk (g.nx b t (by grind[next]));rw[Xf this,List.map_id''];exact λ_=>rfl
 have i:jO u kp b B.ez=B.ez:=by
  unfold jO;rw[M5 g hk c];have:∀j∈List.range B.ez.length,jj kp (B.ez.getD j 0)=B.ez.getD j 0:=λj a=>by
   have a:=Rf.1 a;rw[CM,g0 a,Option.getD_some];have h:B.ez[j]∈ahead u b:=by rw[<-g.ez b B c];exact EA a
   obtain⟨q,k,f,_,d⟩:=wA.1 h;rw[wO]at d;rw[d];exact QR hk (by grind)
  rw[Xf this];exact K5 _ _
 simp_all
theorem Cut.eq(g:Good u) (hk:∀b,b<u.blocks.length->kp b=true) (c:Cut u kp u'):u' = u:=by
 have hb:u'.blocks=u.blocks:=by
  rw[c.blocks,lG,filter_all (by simp_all)];refine So λb=>?_;by_cases h:b<u.blocks.length
  ·grind[wBm,Rm,g0]
  ·simp_all
 have hv:u'.ef=u.ef:=by
  refine So λv=>?_;by_cases h:v<u.ef.length
  ·have hx:=g0 h;generalize u.ef[v]=x at*;rw[hx];by_cases hp:x.op=21/\∃b k,At u v b k/\kp b=true
   ·obtain ⟨d,b,k,a,f⟩:=hp;obtain⟨B,i,j⟩:=id a;rw[c.Ae v b k x B a hx d f i];have e:nq u kp b B.ez x.args=x.args:=by
     unfold nq;rw[M5 g hk i,<-(g.Ae v b k x B a hx d i).2];exact K5 _ _
    rw[e]
   ·exact c.same v x hx hp
  ·rw[JA (by rw[c.len];omega),JA (by omega)]
 have d:=c.func;have l:=c.pc;have m:=c.eh;cases u;cases u'
 simp_all
theorem Ce.eq{az iR:List Int} (c:Ce u kp az iR) (hk:∀b,b<u.blocks.length->kp b=true):iR=az:=by
 refine So λv=>c.same v ?_;rintro⟨b,k,⟨B,a,_⟩,h⟩
 grind
end
open Dm
theorem LL{l L:List Nat} (h:l <+: L) {v:Nat} (hv:v∈l):L.idxOf v=l.idxOf v:=by
 obtain⟨r,rfl⟩:=h
 grind
theorem Fu(l r:List Nat):kZ l <+: kZ (l++r):=by
 induction r using Lo with
 |h0=>simp_all
 | hs r s a=>
   grind[Mb,vU,List.prefix_append]
section
variable{u:U}{as:Nat->Int}
def jK(u:U) (as:Nat->Int) (i j:Nat):List Nat:=(u.blocks.take i).flatMap (λB=>B.ef.filter (stays as))++(match u.blocks[i]? with
 |some B=>(B.ef.take j).filter (stays as)
 |none=>[])
theorem Jf:jK u as 0 0=[]:=by
 grind[jK]
theorem Ql{i:Nat} {B:Bk} (a:u.blocks[i]? =some B):jK u as i B.ef.length=jK u as (i+1) 0:=by
 unfold jK;rw[a];obtain⟨b,rfl⟩:=jk.1 a
 grind[Qs,List.flatMap_singleton,Hj,stays]
theorem SK:jK u as u.blocks.length 0=fu u as:=by
 simp_all[jK,fu,Hj,JA,jb,HU]
theorem Jt{i j v:Nat} {B:Bk} (a:u.blocks[i]? =some B) (hv:B.ef[j]? =some v):jK u as i (j+1)=if stays as v=true then jK u as i j++[v] else jK u as i j:=by
 unfold jK;rw[a];obtain⟨b,rfl⟩:=jk.1 hv
 grind[Qs,Mb]
theorem Fz{i j:Nat} {B:Bk} (a:u.blocks[i]? =some B):jK u as i j <+: fu u as:=by
 unfold jK fu;rw[a];obtain⟨b,rfl⟩:=jk.1 a;have e:u.blocks=u.blocks.take i++u.blocks[i]::u.blocks.drop (i+1):=by
  conv=>lhs;rw[<-VY i u.blocks]
  rw[VV b]
 grind[stays,VY,Mb,List.prefix_append]
theorem zaO(c:YC u) {i j v:Nat} {B:Bk} (a:u.blocks[i]? =some B) (hv:B.ef[j]? =some v) (hs:stays as v=true):(fu u as).idxOf v=(jK u as i j).length/\v ∉ jK u as i j:=by
 have b:=Fz (as:=as) (j:=j+1) a;rw[Jt a hv,if_pos hs]at b;have d:=xO (as:=as) c;obtain⟨r,e⟩:=b
 grind
theorem EF(a:∀v b k,At u v b k->v<u.ef.length) {v:Nat} (hv:v∈fu u as):v<u.ef.length:=by
 unfold fu at hv;obtain⟨B,c,hv⟩:=Tu.1 hv;obtain⟨b,hb⟩:=mr.1 c;obtain⟨k,hk⟩:=mr.1 (HS.1 hv).1;exact a v b k ⟨B,hb,hk⟩
theorem Q8{n:Nat} (h:∀v,v<n->as v<(n:Int)):∀(k v:Nat),v<n->vy as k v<n
 |0,_,hv=>hv
 | k + 1,v,hv=>by
   unfold vy;split
   ·rename_i a
    exact Q8 h k _ (by simp_all)
   ·exact hv
def qt(u:U) (l:List Nat):List Nat:=l.filterMap λn=>match u.ef[n]? with
 |some x=>if leaves x.op=true then some x.state else none
 |none=>none
def zH(l:List Bk):List Nat:=l.filterMap λB=>if B.fin=3 then some B.state else none
theorem MI:IQ u as=qt u (fu u as)++zH u.blocks:=rfl
end
open Dm
def Ww(u:U) (v:Nat):Prop:=(∃x,u.ef[v]? =some x/\(x.op=19\/x.op=20\/x.op=22\/x.op=23))\/ (∃(i:Nat) (x:Vl) (fs:List Fm),u.ef[i]? =some x/\leaves x.op=true/\u.eh[x.state]? =some fs/\v∈ic fs)\/ (∃(b:Nat) (B:Bk),u.blocks[b]? =some B/\B.fin=2/\v=B.cond)\/ (∃(b:Nat) (B:Bk) (fs:List Fm),u.blocks[b]? =some B/\B.fin=3/\u.eh[B.state]? =some fs/\v∈ic fs)
inductive Live (u:U):Nat->Prop
 |root {v:Nat} (h:Ww u v):Live u v
 |use {v w:Nat} {x:Vl} (h:Live u v) (hx:u.ef[v]? =some x) (a:w∈gO x):Live u w
theorem TI{u:U} (g:Good u) {v:Nat} (h:Ww u v):v<u.ef.length:=by
 have gl:∀{w},mq u w->w<u.ef.length:=λ⟨_,h,_⟩=>by grind
 have fl:∀{s fs},u.eh[s]? =some fs->∀w∈ic fs,w<u.ef.length:=λ{s fs} hs w a=>by
  unfold ic at a;obtain⟨f,d,a⟩:=Tu.1 a;obtain⟨_,_,i,e⟩:=(g.st s fs hs).2.2 f d
  grind
 rcases h with⟨x,h,_⟩|⟨_,_,_,_,_,h,hv⟩|⟨b,B,h,e,rfl⟩|⟨_,_,_,_,_,h,hv⟩
 ·grind
 ·grind
 ·rcases g.fin b B h with⟨c,_⟩|⟨_,_,c⟩|⟨c,_⟩
  ·omega
  ·simp_all
  ·omega
 grind
theorem Zf{u:U} (g:Good u) {v:Nat} (h:Live u v):v<u.ef.length:=by
 cases h with
 |root h=>simp_all[TI]
 |use h hx a=>obtain⟨_,h,_⟩:=g.use _ _ hx _ a;grind
def IM(u:U)(as:Nat->Int):Prop:=∀v,v<u.ef.length->(as v=(v:Int)/\Live u v)\/(as v = -1/\¬Live u v)
theorem IM.fit{u:U} (g:Good u) {as:Nat->Int} (d:IM u as) (i:∀v,u.ef.length<=v->as v = -1):Fit u as:=by
 have live:∀{w},Live u w->0<=as w:=λ{w} h=>by
  rcases d w (Zf g h)with⟨e,_⟩|⟨_,p⟩
  ·omega
  simp_all
 have self:∀{v w:Nat},as v=(w:Int)->v=w/\v<u.ef.length:=λ{v w} e=>by
  by_cases hv:v<u.ef.length
  ·rcases d v hv with⟨j,_⟩|⟨j,_⟩
   ·omega
   ·omega
  simp_all
 have st:∀{v x},u.ef[v]? =some x->stays as v=true->Live u v:=λ{v x} hx hs=>by
  have hv:=(jk.1 hx).1;unfold stays at hs;rw[EE]at hs;rcases d v hv with⟨_,h⟩|⟨e,_⟩
  ·exact h
  ·omega
 refine ⟨λv hv h0=>?_,λv w b k e l=>?_,λv w e h=>?_,λv x hx hs w c=>live (.use (st hx hs) hx c),λv x fs hx _ m a w c=>live (.root (.inr (.inl ⟨v,x,fs,hx,m,a,c⟩))),
  λb B f n=>live (.root (.inr (.inr (.inl ⟨b,B,f,n,rfl⟩)))),λb B fs f o a w c=>live (.root (.inr (.inr (.inr ⟨b,B,fs,f,o,a,c⟩))))⟩
 ·rcases d v hv with⟨e,_⟩|⟨e,_⟩
  ·grind
  ·omega
 ·grind
 grind
def AL(l:List Vl):Prop:=∀x∈l,x.args.length<=2
section
variable{ops:List Int}
theorem Nr:∀(i:Nat) (s:Ds) (l:List Nat),(some_ ops i s l).2.ef=s.ef
 |0,_,_=>rfl
 | i+1,s,l=>by
   unfold some_;rw[Nr i];rfl
theorem zq(s:Ds):(ft ops s).2.ef=s.ef:=by
 show(some_ ops (num ops s 4).1 (num ops s 4).2 []).2.ef=s.ef;rw[Nr];rfl
theorem Ik{s:Ds} {x:Vl} (h:AL s.ef) (hx:x.args.length<=2):AL (put s x).ef:=λy a=>by
 have a:y∈s.ef++[x]:=a;rcases Bm.1 a with b|b
 ·exact h y b
 simp_all
theorem xX{s:Ds}{x:Vl}(h:AL s.ef)(hx:x.args.length<=2):AL (iE s x).ef:=Ik h hx
theorem WI{s:Ds} {k a b:Nat} (h:AL s.ef):AL (qB ops s k a b).ef:=by
 have hs:AL (ft ops s).2.ef:=by rw[zq];exact h
 unfold qB;by_cases c:k<12
 ·simp_all[if_pos,xX,vl]
 rw[if_neg c];by_cases c:k=12
 ·simp_all[if_pos,xX,num,vl]
 rw[if_neg c];by_cases c:k=13
 ·simp_all[if_pos,xX,num,vl]
 rw[if_neg c];by_cases c:k=14
 ·simp_all[if_pos,xX,vl]
 rw[if_neg c];by_cases c:k=15
 ·simp_all[if_pos,Ik,num,vl]
 rw[if_neg c];by_cases c:k=16
 ·simp_all[if_pos,Ik,fw,vl]
 rw[if_neg c];by_cases c:k=17
 ·simp_all[if_pos,Ik,vl]
 rw[if_neg c];by_cases c:k=18
 ·simp_all[if_pos,Ik,vl]
 simp_all[if_neg,xX,num,vl]
theorem Sa{s:Ds}(h:AL s.ef):AL (rz ops s).ef:=WI h
theorem TC:∀(i:Nat) (s:Ds),AL s.ef->AL (rows ops i s).ef
 |0,_,h=>h
 | i+1,s,h=>by
   unfold rows;split
   ·exact TC i _ (Sa h)
   ·exact h
theorem CY{s:Ds}(h:AL s.ef):AL (row ops s).ef:=TC _ _ h
theorem KD{s:Ds} {v:Nat} {l:List Nat} (h:AL s.ef) (a:l.length<=2):AL (setArgs s v l).ef:=λy b=>by
 obtain⟨i,hi⟩:=mr.1 b;have hi:(s.ef.modify v λx=>{x with args:=l})[i]? =some y:=hi;rw[List.getElem?_modify]at hi
 cases hx:s.ef[i]? with
 |none=>simp_all
 | some x=>
   rw[hx]at hi;have hi:some (if v=i then{x with args:=l} else x)=some y:=hi;have:=Option.some.inj hi;subst this;split
   ·exact a
   ·exact h x (yC hx)
theorem YB{t:Dt} (h:AL t.s.ef):AL (fork ops t).s.ef:=by
 unfold fork;refine CY (xX ?_ (by simp[vl]));refine CY (s:=(end_ _ _ _ _ _ _).s) ?_;exact CY (s:=(end_ _ _ _ _ _ _).s) h
theorem YK{t:Dt} (h:AL t.s.ef):AL (wo ops t).s.ef:=by
 unfold wo;refine CY (s:=(end_ _ _ _ _ _ _).s) ?_;show AL (ft ops _).2.ef;rw[zq];exact CY (s:=(end_ _ _ _ _ _ _).s) h
theorem Zv{t:Dt} (h:AL t.s.ef):AL (loop ops t).s.ef:=by
 unfold loop;refine CY (s:=(end_ _ _ _ _ _ _).s) ?_;refine KD (s:=_) ?_ (by simp);have c:∀(a:Ds) (p:Nat) (l b:List Nat),l.length<=2->b.length<=2->AL a.ef->AL (if(num ops (setArgs a p l) 3).1=0 then setArgs (num ops (setArgs a p l) 3).2 p b else(num ops (setArgs a p l) 3).2).ef:=by grind[KD,num,setArgs]
 grind[CY,end_,xX,Ik,vl,zq,fw]
theorem Ni:∀(l:List Int) (t:Dt),AL t.s.ef->AL (kT ops l t).s.ef
 |[],_,h=>h
 | k ::l,t,h=>by
   unfold kT;split
   ·refine Ni l _ ?_
    grind[rN,YB,Zv,YK]
   ·exact h
theorem M8:∀(n i:Nat) (s:Ds),AL s.ef->AL (params n i s).ef
 |0,_,_,h=>h
 |n+1,i,s,h=>M8 n (i+1) _ (by grind[xX,vl])
theorem Ym(ops a:List Int) (n:Int):AL (Fb ops a n).ef:=by
 unfold Fb;show AL (ft ops _).2.ef;rw[zq];refine Ni _ _ ?_;exact CY (xX (M8 _ _ _ (λ_ h=>nomatch h)) (by simp[vl]))
end
open Dm
def zdb(nx:Nat->List Nat)(but:Int)(b:Nat):Prop:=∃l,Pt nx b l/\∀x∈l,(x:Int)≠but
structure Wo (n:Nat) (nx:Nat->List Nat) (but:Int) (c:Option (Nat×Nat)) (seen:List Bool) (todo:List Nat):Prop where
 len:seen.length=n
 zero:seen[0]? =some true
 sound:∀v:Nat,seen[v]? =some true->zdb nx but v
 work:∀v∈todo,seen[v]? =some true
 closed:∀v:Nat,seen[v]? =some true->v∈todo\/∀(k t:Nat),(nx v)[k]? =some t->(t:Int)≠but->seen[t]? =some true\/∃j,c=some (v,j)/\j<=k
 less:todo.length+seen.count false<=n
theorem count_set{l:List Bool}:∀{v:Nat},l[v]? =some false->(l.set v true).count false+1=l.count false:=by
 grind
section
variable{n:Nat}{nx:Nat->List Nat}{but:Int}{seen:List Bool}{todo:List Nat}
end
open Dm
def jG(op:Nat):Bool:=2<=op&&op<=16
theorem Ho{op:Nat}:jG op=true↔2<=op/\op<=16:=by simp_all[jG,uF,D1]
def OG(as:Nat->Int) (l:List Nat) (i:Nat):Int:=match l[i]? with
 |some w=>as w
 |none=>-1
def keyOf(as:Nat->Int)(x:Vl):Nat×Int×Int×Int:=(x.op,OG as (gO x) 0,OG as (gO x) 1,if x.op=2 then x.n else 0)
def xF(u:U)(w v:Nat):Prop:=∃c j b k,At u w c j/\At u v b k/\(c=b/\j<k\/c≠b/\kV (next u) c b)
structure Hh (u:U) (as:Nat->Int):Prop where
 stay:∀(v:Nat) (x:Vl),u.ef[v]? =some x->jG x.op=false->as v=(v:Int)
 num:∀(v:Nat) (x:Vl),u.ef[v]? =some x->jG x.op=true->
  (as v=(v:Int)/\∀(w:Nat) (y:Vl),u.ef[w]? =some y->jG y.op=true->as w=(w:Int)->xF u w v->keyOf as y≠keyOf as x)\/
  ∃(w:Nat) (y:Vl),as v=(w:Int)/\u.ef[w]? =some y/\jG y.op=true/\as w=(w:Int)/\xF u w v/\keyOf as y=keyOf as x
section
variable{u:U}(g:Good u){as:Nat->Int}(d:Hh u as)
include d
theorem Hh.pos{v:Nat} (hv:v<u.ef.length):∃w:Nat,as v=(w:Int)/\w<u.ef.length/\as w=(w:Int)/\(w=v\/(xF u w v/\∃y,u.ef[w]? =some y/\jG y.op=true)):=by
 have hx:=g0 hv
 cases hp:jG u.ef[v].op with
 |false=>have:=d.stay v _ hx hp;grind
 | true=>
   rcases d.num v _ hx hp with⟨h,_⟩|⟨w,y,a,b,c,e,f,_⟩
   ·grind
   grind
include g
theorem Hh.fit(o:∀v,u.ef.length<=v->as v = -1):Fit u as:=by
 have lt:∀{v w:Nat},as v=(w:Int)->v<u.ef.length:=by grind
 have p:∀{v},v<u.ef.length->0<=as v:=λ{v} hv=>by obtain⟨w,h,_⟩:=d.pos hv;omega
 have gl:∀{w},mq u w->w<u.ef.length:=λ⟨_,h,_⟩=>by grind
 have fl:∀{s fs},u.eh[s]? =some fs->∀w∈ic fs,w<u.ef.length:=λ{s fs} hs w a=>by
  unfold ic at a;obtain⟨f,r,a⟩:=Tu.1 a;obtain⟨_,_,l,q⟩:=(g.st s fs hs).2.2 f r
  grind
 refine⟨λv hv _=>?_,λv w b k e i=>?_,λv w e t=>?_,λv x hx _ w a=>p (gl (g.use v x hx w a)),by grind,λb B z q=>p ?_,by grind⟩
 ·obtain⟨w,l,q,m,_⟩:=d.pos hv
  grind
 ·obtain ⟨w',l,_,_,n⟩:=d.pos (g.jz _ _ _ i);obtain rfl:w=w':=by omega
  rcases n with rfl|⟨⟨c,j,b',k',E,A,F⟩,_⟩
  ·grind
  ·obtain⟨rfl,rfl⟩:=g.AH _ _ _ _ _ i A
   grind
 ·obtain ⟨w',l,_,_,n⟩:=d.pos (lt e);obtain rfl:w=w':=by omega
  rcases n with rfl|⟨_,y,C,D⟩
  ·exact t
  ·refine⟨y,C,?_⟩;rw[Ho]at D;unfold LG
   grind
 ·rcases g.fin b B z with⟨m,_⟩|⟨_,_,m⟩|⟨m,_⟩
  ·omega
  ·simp_all
  ·omega
end
open Dm
def tm(n:Int):Int:=n % 18446744073709551616
def wQ(n:Int):Int:=if n<9223372036854775808 then n else n-18446744073709551616
def B7(b:Bool):Int:=if b=true then 1 else 0
def CC(op:Nat) (a b:Int):Int:=
 if op=3 then tm (a+b) else if op=4 then tm (a-b) else if op=5 then tm (a*b)
 else if op=6 then(if wQ b=0 then 0 else if wQ b = -1 then tm (-a) else tm ((wQ a).tdiv (wQ b)))
 else if op=7 then(if wQ b=0\/wQ b = -1 then 0 else tm ((wQ a).tmod (wQ b)))
 else if op=8 then tm (-a) else if op=9 then B7 (decide (a=0)) else if op=10 then B7 (decide (a=b)) else if op=11 then B7 (decide (a≠b))
 else if op=12 then B7 (decide (wQ a<wQ b)) else if op=13 then B7 (decide (wQ a<=wQ b)) else if op=14 then B7 (decide (a<b)) else 0
def Tv(h:List Int)(a:Int):Int:=h.getD a.toNat 0
def zbK(h:List Int)(a v:Int):List Int:=if a=0 then h else h.set a.toNat v
def QV(x:Vl) (val:Nat->Int) (h:List Int):Int:=
 if x.op=2 then tm x.n else if x.op=15 then Tv h (val x.a) / 4294967296 else if x.op=16 then Tv h (val x.a) % 4294967296
 else if x.op=17 then Tv h (tm (val x.a+tm x.n)) else if x.op=18 then Tv h (tm (tm (val x.a+1)+val x.b))
 else if x.op=8\/x.op=9 then CC x.op (val x.a) 0 else CC x.op (val x.a) (val x.b)
structure Rs where
 val:List Int
 heap:List Int
 steps:Nat
 polls:Nat
def Rs.of(s:Rs)(v:Nat):Int:=s.val.getD v 0
structure Fw where
 func:Int
 pc:Int
 locals:List Int
 stack:List Int
inductive Ex where
 |Ue
 |left (steps:Nat) (fr:List Fw) (heap:List Int)
 |stuck
def Ah(u:U)(s:Rs)(st:Nat):Ex:= .left s.steps (((u.eh[st]?).getD []).map λf=>⟨f.func,f.pc,f.locals.map s.of,f.stack.map s.of⟩) s.heap
def xW(u:U) (jH:Int) (n:Nat) (x:Vl) (s:Rs):Ex ⊕ Rs:=
 if x.op=19 then .inr {s with heap:=zbK s.heap (tm (s.of x.a+tm x.n)) (s.of x.b),steps:=s.steps+1}
 else if x.op=20 then .inr {s with heap:=zbK s.heap (tm (tm (s.of x.a+1)+s.of x.b)) (s.of (x.args.getD 0 0)),steps:=s.steps+1}
 else if x.op=22 then(if s.of x.a=0 then .inl (Ah u {s with steps:=s.steps+1} x.state) else .inr {s with steps:=s.steps+1})
 else if x.op=23 then(if 0<=jH/\(s.polls:Int)=jH then .inl (Ah u {s with steps:=s.steps+1} x.state) else .inr {s with steps:=s.steps+1,polls:=s.polls+1})
 else .inr {s with val:=s.val.set n (QV x s.of s.heap),steps:=s.steps+1}
def Cr(u:U) (jH:Int) (fuel:Nat):List Nat->Rs->Ex ⊕ Rs
 |[],s=> .inr s
 | n ::l,s=>if fuel<=s.steps then .inl .Ue else match u.ef[n]? with
   |none=> .inl .stuck
   | some x=>match xW u jH n x s with
     | .inl e=> .inl e
     | .inr s=>Cr u jH fuel l s
def fY(u:U) (v:Nat):Bool:=match u.ef[v]? with
 |some x=>iF x.op
 |none=>false
def tA(u:U) (locals:List Int) (wB:Option Nat) (B:Bk) (val:Nat->Int) (v:Nat):Int:=match u.ef[v]? with
 | some x=>if x.op=1 then locals.getD x.n.toNat 0 else match wB with
   | some p=>match B.ez.findIdx? (·== p)with
     |some j=>val (x.args.getD j 0)
     |none=>0
   |none=>0
 |none=>0
def A7(val:List Int)(l:List (Nat×Int)):List Int:=l.foldl (λa p=>a.set p.1 p.2) val
def nQ(u:U) (locals:List Int) (wB:Option Nat) (B:Bk) (s:Rs):Rs:=
 let hs:=B.ef.takeWhile (fY u)
 {s with val:=A7 s.val (hs.map λv=>(v,tA u locals wB B s.of v)),steps:=s.steps+hs.length}
def rR(B:Bk)(s:Rs):Option Nat:=if B.fin=1 then B.next[0]? else if B.fin=2 then(if s.of B.cond=0 then B.next[1]? else B.next[0]?) else none
def runM(u:U) (locals:List Int) (jH:Int) (fuel:Nat):Nat->Option Nat->Nat->Rs->Ex
 |0,_,_,_=> .stuck
 | Md+1,wB,b,s=>match u.blocks[b]? with
   |none=> .stuck
   | some B=>match Cr u jH fuel (B.ef.dropWhile (fY u)) (nQ u locals wB B s)with
     | .inl e=>e
     | .inr s=>if fuel<=s.steps then .Ue else if B.fin=3 then Ah u {s with steps:=s.steps+1} B.state else match rR B s with
       |none=> .stuck
       |some t=>runM u locals jH fuel Md (some b) t {s with steps:=s.steps+1}
def vM(u:U)(heap:List Int):Rs:=⟨List.replicate u.ef.length 0,heap,0,0⟩
def Ex.As:Ex->Ex->Prop
 | .left n fr h,.left n' fr' h'=>n'<=n/\fr' = fr/\h' = h
 | .left _ _ _,_=>False
 |_,_=>True
section
variable{u:U}{as:Nat->Int}
structure Alike (u:U) (as:Nat->Int) (s s':Rs):Prop where
 len:s.val.length=u.ef.length
 Bo:s'.val.length=(fu u as).length
 val:∀v∈fu u as,s'.of ((fu u as).idxOf v)=s.of v
 heap:s'.heap=s.heap
 steps:s'.steps<=s.steps
 polls:s'.polls=s.polls
structure Way (u:U) (as:Nat->Int) (locals:List Int) (jH:Int) (heap:List Int) (I:Nat->Nat->Rs->Prop):Prop where
 start:∀B:Bk,u.blocks[0]? =some B->I 0 (B.ef.takeWhile (fY u)).length (nQ u locals none B (vM u heap))
 uS:∀(b t:Nat) (B T:Bk) (s:Rs),u.blocks[b]? =some B->u.blocks[t]? =some T->t∈B.next->I b B.ef.length s->s.val.length=u.ef.length->I t (T.ef.takeWhile (fY u)).length (nQ u locals (some b) T {s with steps:=s.steps+1})
 one:∀(b k v:Nat) (x:Vl) (s a:Rs),At u v b k->u.ef[v]? =some x->fY u v=false->I b k s->s.val.length=u.ef.length->xW u jH v x s = .inr a->I b (k+1) a
 use:∀(b k w:Nat) (r:Nat) (s:Rs),I b k s->s.val.length=u.ef.length->zh u w b k->as w=(r:Int)->s.of r=s.of w
theorem Ax{l:List Int} {i j:Nat} {x:Int} (hi:i<l.length):(l.set i x).getD j 0=if j=i then x else l.getD j 0:=by
 grind
theorem Ge(l:List (Nat×Int)):∀val:List Int,(A7 val l).length=val.length:=by
 induction l with
 |nil=>exact λ_=>rfl
 | cons p l a=>
   grind[A7,Lm]
theorem yM{f:Nat->Int} {j:Nat}:∀(l:List Nat) (val:List Int),(∀v∈l,v<val.length)->(A7 val (l.map λv=>(v,f v))).getD j 0=if j∈l then f j else val.getD j 0
 |[],_,_=>by rfl
 | v::l,val,h=>by
   show(A7 (val.set v (f v)) (l.map λv=>(v,f v))).getD j 0=_;rw[yM l _ (by simp_all),Ax (by simp_all)]
   grind
end
theorem rJ{u:U} {w b:Nat} {B:Bk} (d:u.blocks[b]? =some B) (h:rC u w b):zh u w b B.ef.length:=by
 obtain⟨c,j,a,f⟩:=h;refine⟨c,j,a,?_⟩;by_cases e:c=b
 ·subst e;obtain⟨g,i,k⟩:=a
  grind
 simp_all
section
variable{u:U}{P:Nat->Prop}{as:Nat->Int}[hP:T2 P as] (g:Gd u P)(f:Fit u as){I:Nat->Nat->Rs->Prop}{locals:List Int}{jH:Int}{heap:List Int}(W:Way u as locals jH heap I)
include g f W
theorem NT{b k w:Nat} {s s':Rs} (e:I b k s) (d:Alike u as s s') (hs:zh u w b k) (h0:0<=as w):s'.of (nm u as w)=s.of w:=by
 obtain⟨c,j,a,_⟩:=id hs;obtain⟨r,h,i,l⟩:=Ui g f (g.jz _ _ _ a) h0;rw[l,d.val r i];exact W.use b k w r s e d.len hs h
theorem L8{b k st:Nat} {s s':Rs} {fs:List Fm} (h:I b k s) (d:Alike u as s s') (f:st∈El u as) (c:u.eh[st]? =some fs) (hs:∀w∈ic fs,zh u w b k/\0<=as w) :
  ∃fr,Ah u {s with steps:=s.steps+1} st = .left (s.steps+1) fr s.heap/\Ah (gG u as) {s' with steps:=s'.steps+1} ((El u as).idxOf st) = .left (s'.steps+1) fr s.heap:=by
 refine ⟨_,rfl,?_⟩;unfold Ah;rw[Rr f c,c,d.heap];simp only[Option.getD_some,List.map_map];congr 1;refine Xf λa g=>?_;have e:∀l:List Nat,(∀w∈l,w∈ic fs)->(l.map (nm u as)).map s'.of=l.map s.of:=λl i=>by
  grind[List.map_map,Xf,NT]
 show Fw.mk a.func a.pc ((a.locals.map (nm u as)).map s'.of) ((a.stack.map (nm u as)).map s'.of)=_;rw[e a.locals (by grind[ic,My]),e a.stack (by grind[ic,wBt])];rfl
variable (B6:∀(v b k:Nat)(x:Vl),At u v b k->u.ef[v]? =some x->stays as v=false->x.op≠19/\x.op≠20/\(x.op=22->∀s,I b k s->s.of x.a≠0)/\x.op≠23)
include B6
omit g f W B6 in
theorem En {x:Vl}:(two x.op=true->x.op≠21->x.a∈gO x/\x.b∈gO x)/\(pe x.op=true->x.op≠21->x.a∈gO x):=by
 constructor
 ·intro h h1;unfold gO
  grind
 ·intro h h1;unfold gO
  grind
omit B6 in
theorem zaY {b k v:Nat} {x:Vl} {s s':Rs} (Mf:At u v b k) (hx:u.ef[v]? =some x) (hh:fY u v=false) (hst:stays as v=true) (hI:I b k s) (ha:Alike u as s s') :
  (∀n fr hp,xW u jH v x s = .inl (.left n fr hp)->∃n',n'<=n/\xW (gG u as) jH ((fu u as).idxOf v) (gW u as x) s' = .inl (.left n' fr hp))/\
  (∀s1,xW u jH v x s = .inr s1->∃s1',xW (gG u as) jH ((fu u as).idxOf v) (gW u as x) s' = .inr s1'/\Alike u as s1 s1'):=by
 have h21:x.op≠21:=by grind[fY,iF]
 have hvl:=(jk.1 hx).1;have hm:v∈fu u as:=(iJ g).2 ⟨hvl,hst⟩;have eu:∀w∈gO x,s'.of (nm u as w)=s.of w:=λw hw=>NT g f W hI ha (g.xG v b k x Mf hx h21 w hw) (f.use v x hx hst w hw);have ea:two x.op=true\/pe x.op=true->s'.of (gW u as x).a=s.of x.a:=λh=>by
  have:(gW u as x).a=nm u as x.a:=by
   show(if _ then nm u as x.a else x.a)=_;rcases h with h|h
   ·simp_all
   ·grind
  grind[En]
 have eb:two x.op=true->s'.of (gW u as x).b=s.of x.b:=by simp_all[gW,nm,if_pos,En]
 have hop:=g.op v x hx;have stp:=ha.steps;have pol:=ha.polls;have hp:=ha.heap;have goH:∀(q q':List Int),q' = q->Alike u as {s with heap:=q,steps:=s.steps+1} {s' with heap:=q',steps:=s'.steps+1}:=λq q' e=>⟨ha.len,ha.Bo,ha.val,e,by simp only;omega,pol⟩
 have lv:leaves x.op=true->∃fs,u.eh[x.state]? =some fs/\(gW u as x).state=(El u as).idxOf x.state/\x.state∈El u as/\∀w∈ic fs,zh u w b k/\0<=as w:=λhl=>by
  have hs0:=g.leave v x hx hl;have hfs:=g0 hs0;exact⟨_,hfs,if_pos hl,zcq g hst hx hl,λw hw=>⟨g.Cn v b k x _ Mf hx hl hfs w hw,f.st v x _ hx hst hl hfs w hw⟩⟩
 unfold xW;rw[show(gW u as x).op=x.op from rfl,show(gW u as x).n=x.n from rfl];by_cases h19:x.op=19
 ·have e2:two x.op=true:=by rw[h19];rfl
  simp_all
 rw[if_neg h19,if_neg h19];by_cases h20:x.op=20
 ·have e2:two x.op=true:=by rw[h20];rfl
  rw [if_pos h20,if_pos h20];refine⟨λ_ _ _ h=>(nomatch h),λs1 h=>?_⟩;cases h;refine⟨_,rfl,goH _ _ ?_⟩;have hl:=g.putAt v x hx h20;have eC:s'.of ((gW u as x).args.getD 0 0)=s.of (x.args.getD 0 0):=by
   have:(gW u as x).args=x.args.map (nm u as):=if_pos (.inr h20);rw[this]
   match hq:x.args,hl with
   | [w],_=>
     simp_all[gO,if_neg,if_pos]
  simp_all
 rw[if_neg h20,if_neg h20];by_cases h22:x.op=22
 ·have e1:pe x.op=true:=by rw[h22];rfl
  rw[if_pos h22,if_pos h22,ea (.inr e1)];obtain⟨fs,l1,l2,l3,l4⟩:=lv (by rw[h22];rfl);by_cases hz:s.of x.a=0
  ·rw[if_pos hz,if_pos hz];refine⟨λn fr q h=>?_,λ_ h=>(nomatch h)⟩;obtain⟨fr',g1,g2⟩:=L8 g f W hI ha l3 l1 l4
   grind
  simp_all
 rw[if_neg h22,if_neg h22];by_cases h23:x.op=23
 ·rw [if_pos h23,if_pos h23,pol];obtain⟨fs,l1,l2,l3,l4⟩:=lv (by rw[h23];rfl);by_cases hz:0<=jH/\(s.polls:Int)=jH
  ·rw[if_pos hz,if_pos hz];refine⟨λn fr q h=>?_,λ_ h=>(nomatch h)⟩;obtain⟨fr',g1,g2⟩:=L8 g f W hI ha l3 l1 l4
   grind
  ·rw[if_neg hz,if_neg hz];refine⟨λ_ _ _ h=>(nomatch h),λs1 h=>?_⟩;cases h;exact⟨_,rfl,ha.len,ha.Bo,ha.val,hp,by simp only;omega,by simp only⟩
 rw [if_neg h23,if_neg h23];refine⟨λ_ _ _ h=>(nomatch h),λs1 h=>?_⟩;cases h;have eV:QV (gW u as x) s'.of s'.heap=QV x s.of s.heap:=by
  have h1:x.op≠1:=by grind[fY,iF]
  unfold QV;rw[show(gW u as x).op=x.op from rfl,show(gW u as x).n=x.n from rfl,hp];have ht:x.op≠2->two x.op=true\/pe x.op=true:=λh2=>by
   unfold two pe;simp only[Rc,uF,D1,EE];omega
  by_cases h2:x.op=2
  ·rw[if_pos h2,if_pos h2]
  rw [if_neg h2,if_neg h2,ea (ht h2)];have htw:x.op≠15->x.op≠16->x.op≠17->¬(x.op=8\/x.op=9)->two x.op=true:=λa1 a2 a3 a4=>by
   unfold two;simp only[Rc,uF,D1,EE];omega
  by_cases h15:x.op=15
  ·rw[if_pos h15,if_pos h15]
  rw[if_neg h15,if_neg h15];by_cases h16:x.op=16
  ·rw[if_pos h16,if_pos h16]
  rw[if_neg h16,if_neg h16];by_cases h17:x.op=17
  ·rw[if_pos h17,if_pos h17]
  rw[if_neg h17,if_neg h17];by_cases h18:x.op=18
  ·simp_all
  rw[if_neg h18,if_neg h18];by_cases h89:x.op=8\/x.op=9
  ·rw[if_pos h89,if_pos h89]
  ·simp_all
 rw[eV];refine⟨_,rfl,by simp only[Lm];exact ha.len,by simp only[Lm];exact ha.Bo,λw hw=>?_,hp,by simp only;omega,pol⟩;show(s'.val.set _ _).getD _ 0=(s.val.set _ _).getD _ 0;rw[Ax (by rw[ha.Bo];exact wBl hm),Ax (by rw[ha.len];exact hvl)];by_cases e:w=v
 ·subst e;rw[if_pos rfl,if_pos rfl]
 ·rw[if_neg e,if_neg λh=>e (N7 hw hm h)];exact ha.val w hw
theorem Up{fuel b:Nat} {B:Bk} (A:u.blocks[b]? =some B):∀(l:List Nat) (k:Nat) (s s':Rs),B.ef.drop k=l->k+l.length=B.ef.length->(∀v∈l,fY u v=false)->I b k s->Alike u as s s'->
  (∀n fr m,Cr u jH fuel l s = .inl (.left n fr m)->∃q,q<=n/\Cr (gG u as) jH fuel ((l.filter (stays as)).map (fu u as).idxOf) s' = .inl (.left q fr m))/\
  (∀c,Cr u jH fuel l s = .inr c->∃a,Cr (gG u as) jH fuel ((l.filter (stays as)).map (fu u as).idxOf) s' = .inr a/\Alike u as c a/\I b B.ef.length c)
 | [],k,s,s',hl,hk,_,hI,ha=>by
   refine⟨λn fr m h=>(nomatch h),λc h=>?_⟩;cases h;have hk:k=B.ef.length:=by simpa using hk
   subst hk
   exact⟨s',rfl,ha,hI⟩
 | v ::l,k,s,s',hl,hk,hh,hI,ha=>by
   have o:k<B.ef.length:=by rw[Pb]at hk;omega
   rw[VV o]at hl;obtain⟨hv,r⟩:=List.cons.inj hl;have d:At u v b k:=⟨B,A,by rw[<-hv];exact g0 o⟩
   have p:=g.jz _ _ _ d;have hx:=g0 p;generalize u.ef[v]=x at hx;have i:=hh v (by simp);have t:=λ(c a:Rs) (y:I b (k+1) c) (z:Alike u as c a)=>Up A (fuel:=fuel) l (k+1) c a r (by grind) (by simp_all) y z;show(∀n fr m,(if fuel<=s.steps then _ else _)=_->_)/\(∀c,(if fuel<=s.steps then _ else _)=_->_);by_cases hf:fuel<=s.steps
   ·simp_all
   rw[if_neg hf,hx];simp only;have D:=ha.steps
   cases hst:stays as v with
   | true=>
     have E:v∈fu u as:=by grind[iJ]
     have e:((v::l).filter (stays as)).map (fu u as).idxOf=(fu u as).idxOf v::(l.filter (stays as)).map (fu u as).idxOf:=by rw[wBb,if_pos hst];rfl
     rw[e];show(∀n fr m,_->∃q,q<=n/\(if fuel<=s'.steps then _ else _)=_)/\(∀c,_->∃a,(if fuel<=s'.steps then _ else _)=_/\_);rw[if_neg (by omega),OF (Eg E) hx];simp only;obtain⟨M,F⟩:=zaY g f W d hx i hst hI ha
     cases hq:xW u jH v x s with
     | inl e=>
       grind
     | inr c=>
       obtain⟨a,G,H⟩:=F _ hq;rw[G]
       exact t c a (W.one b k v x s c d hx i hI ha.len hq) H
   | false=>
     have e:((v::l).filter (stays as)).map (fu u as).idxOf=(l.filter (stays as)).map (fu u as).idxOf:=by rw[wBb,if_neg (by simp_all)]
     rw[e];obtain⟨d1,C,J,K⟩:=B6 v b k x d hx hst;by_cases j:x.op=22
     ·have hq:xW u jH v x s = .inr {s with steps:=s.steps+1}:=by
        unfold xW;rw[if_neg d1,if_neg C,if_pos j,if_neg (J j s hI)]
      rw[hq];exact t _ s' (W.one b k v x s _ d hx i hI ha.len hq) ⟨ha.len,ha.Bo,ha.val,ha.heap,by simp only;omega,ha.polls⟩
     have hq:xW u jH v x s = .inr {s with val:=s.val.set v (QV x s.of s.heap),steps:=s.steps+1}:=by
       unfold xW;rw[if_neg d1,if_neg C,if_neg j,if_neg K]
     rw[hq];refine t _ s' (W.one b k v x s _ d hx i hI ha.len hq) ⟨by simp only[Lm];exact ha.len,ha.Bo,λw L=>?_,ha.heap,by grind,ha.polls⟩;rw[ha.val w L];show _=(s.val.set _ _).getD _ 0;rw[Ax (by rw[ha.len];exact p),if_neg (by grind[iJ])];rfl
omit f W B6 in
theorem FH {b:Nat} {B:Bk} (hB:u.blocks[b]? =some B):∀v∈B.ef.dropWhile (fY u),fY u v=false:=by
 have e:=wA9 (p:=fY u) (l:=B.ef)
 cases hd:B.ef.dropWhile (fY u)with
 |nil=>simp_all
 | cons w r=>
   have hw:fY u w=false:=by
     have:=List.head?_dropWhile_not (fY u) B.ef;rw[hd]at this;simpa using this
   intro v hv
   cases hq:fY u v with
   |false=>rfl
   | true=>
     exfalso;rw[hd]at e;generalize B.ef.takeWhile (fY u)=hs at e;obtain⟨n,hn⟩:=mr.1 hv;have a1:At u v b (hs.length+n):=⟨B,hB,by rw[<-e,Ya (by omega)];rw[wBd];exact hn⟩
     have a2:At u w b hs.length:=⟨B,hB,by rw[<-e,Ya (by omega),Nat.sub_self];rfl⟩
     have hx:=g0 (g.jz _ _ _ a1);have hy:=g0 (g.jz _ _ _ a2)
     grind[fY,SX]
omit g f W B6 in
theorem IK {p:Nat->Bool} {x:Nat}:∀{l:List Nat},x∈l.takeWhile p->p x=true
 |[],h=>by cases h
 | a ::l,h=>by
   rw[List.takeWhile_cons]at h;split at h
   ·rename_i ha
    rcases FZ.1 h with rfl|h
    ·exact ha
    ·exact IK h
   ·cases h
omit g f W B6 in
theorem Fa {p:Nat->Bool}:∀{a b:List Nat},(∀x∈a,p x=true)->(∀x∈b,p x=false)->(a++b).takeWhile p=a/\(a++b).dropWhile p=b
 | [],b,_,hb=>by
   cases b <;> simp_all
 | x::a,b,ha,hb=>by
   obtain⟨h1,h2⟩:=Fa (a:=a) (b:=b) (by simp_all) hb
   simp_all
omit f W B6 in
theorem Xj {v:Nat} (hv:v∈fu u as):fY (gG u as) ((fu u as).idxOf v)=fY u v:=by
 have hx:=g0 ((iJ g).1 hv).1;unfold fY;rw[OF (Eg hv) hx,hx];rfl
omit f W B6 in
theorem Ur {b:Nat} {B:Bk} (hB:u.blocks[b]? =some B) :
  (lM u as B).ef.takeWhile (fY (gG u as))=((B.ef.takeWhile (fY u)).filter (stays as)).map (fu u as).idxOf/\(lM u as B).ef.dropWhile (fY (gG u as))=((B.ef.dropWhile (fY u)).filter (stays as)).map (fu u as).idxOf:=by
 have e:(lM u as B).ef=((B.ef.takeWhile (fY u)).filter (stays as)).map (fu u as).idxOf++((B.ef.dropWhile (fY u)).filter (stays as)).map (fu u as).idxOf:=by
  rw[<-MA,<-wBu,wA9];rfl
 have LR:∀v∈B.ef,stays as v=true->v∈fu u as:=λv hv hs=>by
  obtain⟨k,hk⟩:=mr.1 hv;exact(iJ g).2 ⟨g.jz v b k ⟨B,hB,hk⟩,hs⟩
 rw[e];refine Fa (λx hx=>?_) λx hx=>?_
 ·obtain⟨v,hv,rfl⟩:=GL.1 hx
  grind[Xj,wBL,IK]
 ·obtain⟨v,hv,rfl⟩:=GL.1 hx
  grind[Xj,List.dropWhile_subset,FH]
omit f W B6 in
theorem X7 {b:Nat} {B:Bk} {wB:Option Nat} {s s':Rs} (hB:u.blocks[b]? =some B) (ha:Alike u as s s')
  (zdq:∀(v k:Nat) (x:Vl) (j p a:Nat),At u v b k->stays as v=true->u.ef[v]? =some x->x.op=21->wB=some p->B.ez[j]? =some p->x.args[j]? =some a->s'.of (nm u as a)=s.of a) :
  Alike u as (nQ u locals wB B s) (nQ (gG u as) locals wB (lM u as B) s'):=by
 obtain ⟨e1,_⟩:=Ur (as:=as) g hB;have Vv:∀v∈B.ef.takeWhile (fY u),∃k,At u v b k:=λv hv=>by
  obtain⟨k,hk⟩:=mr.1 (wBL _ hv);exact⟨k,B,hB,hk⟩
 have hw:∀v∈B.ef.takeWhile (fY u),stays as v=true->tA (gG u as) locals wB (lM u as B) s'.of ((fu u as).idxOf v)=tA u locals wB B s.of v:=by
  intro v hv hs;obtain⟨k,Mf⟩:=Vv v hv;have hvl:=g.jz _ _ _ Mf;have hx:=g0 hvl;generalize u.ef[v]=x at hx;have hm:v∈fu u as:=by grind[iJ]
  unfold tA;rw[OF (Eg hm) hx,hx];show(if x.op=1 then _ else _)=(if x.op=1 then _ else _)
  by_cases h1:x.op=1
  ·rw[if_pos h1,if_pos h1];rfl
  rw [if_neg h1,if_neg h1];have h21:x.op=21:=by
   have:=IK hv;unfold fY at this;rw[hx]at this;unfold iF at this;rw[Rc,EE,EE]at this;omega
  cases hf:wB with
  |none=>rfl
  | some p=>
    show (match B.ez.findIdx? (·== p)with
      |some j=>s'.of ((gW u as x).args.getD j 0)
      |none=>0)=(match B.ez.findIdx? (·== p)with
      |some j=>s.of (x.args.getD j 0)
      |none=>0)
    cases hj:B.ez.findIdx? (·== p)with
    |none=>rfl
    | some j=>
      simp only;obtain⟨hjl,hjp,_⟩:=List.findIdx?_eq_some_iff_getElem.1 hj;rw[EE]at hjp;have hpl:=(g.Ae v b k x B Mf hx h21 hB).2;have hja:x.args[j]? =some x.args[j]:=by simp_all
      have e:(gW u as x).args=x.args.map (nm u as):=if_pos (.inl h21)
      grind
 unfold nQ;simp only;rw[e1];have hv0:∀v∈B.ef.takeWhile (fY u),v<s.val.length:=λv hv=>by
  obtain⟨k,Mf⟩:=Vv v hv;rw[ha.len];exact g.jz _ _ _ Mf
 refine⟨by simp only[Ge];exact ha.len,by simp only[Ge];exact ha.Bo,λv hv=>?_,ha.heap,?_,ha.polls⟩
 ·show (A7 s'.val _).getD _ 0=(A7 s.val _).getD _ 0;rw[yM _ _ hv0,yM _ _ λw hw=>by
   obtain⟨v',hv',rfl⟩:=GL.1 hw;obtain⟨h1,h2⟩:=HS.1 hv';obtain⟨k,Mf⟩:=Vv v' h1;rw[ha.Bo];exact wBl ((iJ g).2 ⟨g.jz _ _ _ Mf,h2⟩)]
  by_cases hm:v∈B.ef.takeWhile (fY u)
  ·rw[if_pos hm,if_pos (GL.2 ⟨v,by grind[iJ],rfl⟩)]
   grind[iJ]
  ·rw [if_neg hm,if_neg λh=>by
    obtain⟨v',hv',e⟩:=GL.1 h;obtain⟨h1,h2⟩:=HS.1 hv';obtain⟨k,Mf⟩:=Vv v' h1;obtain rfl:=N7 ((iJ g).2 ⟨g.jz _ _ _ Mf,h2⟩) hv e
    simp_all]
   exact ha.val v hv
 ·simp only[B5];have:=U7 (stays as) (B.ef.takeWhile (fY u));have:=ha.steps;omega
theorem WT{fuel:Nat}:∀(Md:Nat) (wB:Option Nat) (b:Nat) (B:Bk) (s s':Rs),u.blocks[b]? =some B->Alike u as s s'->
  ((wB=none/\b=0/\s=vM u heap)\/∃(p:Nat) (P:Bk) (o i:Rs),wB=some p/\u.blocks[p]? =some P/\b∈P.next/\I p P.ef.length o/\Alike u as o i/\s = {o with steps:=o.steps+1}/\s' = {i with steps:=i.steps+1})->
  (runM u locals jH fuel Md wB b s).As (runM (gG u as) locals jH fuel Md wB b s')
 |0,_,_,_,_,_,_,_,_=>trivial
 | Md+1,wB,b,B,s,s',hB,ha,he=>by
   have R:=(jk.1 hB).1;have E:Alike u as (nQ u locals wB B s) (nQ (gG u as) locals wB (lM u as B) s'):=by
     refine X7 g hB ha λv k x j p a F hs hx G A H hq=>?_;rcases he with⟨z,_⟩|⟨O,P,o,i,z,h,C,q,J,rfl,rfl⟩
     ·simp_all
     ·rw[z]at A
      cases A;exact NT g f W (s:=o) (s':=i) q J (rJ h (g.zE v b k x B F hx G hB j a p hq H)) (f.use v x hx hs a (by
        unfold gO
        grind))
   have K:I b (B.ef.takeWhile (fY u)).length (nQ u locals wB B s):=by
     rcases he with⟨rfl,rfl,rfl⟩|⟨O,P,o,i,rfl,h,C,q,J,rfl,rfl⟩
     ·exact W.start B hB
     ·exact W.uS O b P B o h hB C q J.len
   obtain ⟨_,S⟩:=Ur (as:=as) g hB;have hlen:(B.ef.takeWhile (fY u)).length+(B.ef.dropWhile (fY u)).length=B.ef.length:=by
     rw[<-KC,wA9]
   have L:B.ef.drop (B.ef.takeWhile (fY u)).length=B.ef.dropWhile (fY u):=by
     have e:=wA9 (p:=fY u) (l:=B.ef);generalize B.ef.takeWhile (fY u)=a at e⊢;generalize B.ef.dropWhile (fY u)=d at e⊢;rw[<-e];exact List.drop_left' rfl
   obtain⟨r1,r2⟩:=Up g f W B6 (fuel:=fuel) hB _ _ _ _ L hlen (FH g hB) K E;unfold runM;rw[hB,SP hB];simp only;rw[S]
   cases hq:Cr u jH fuel (B.ef.dropWhile (fY u)) (nQ u locals wB B s)with
   | inl e=>
     simp only
     cases e with
     |Ue=>exact trivial
     |stuck=>exact trivial
     | left n fr H=>
       obtain⟨Y,z,h⟩:=r1 n fr H hq;rw[h]
       exact⟨z,rfl,rfl⟩
   | inr D=>
     obtain⟨r,z,h,C⟩:=r2 D hq;rw[z];simp only;have T:=h.steps;by_cases A:fuel<=D.steps
     ·rw[if_pos A];exact trivial
     rw[if_neg A,if_neg (show ¬fuel<=r.steps by omega)];show Ex.As (if B.fin=3 then _ else _) (if B.fin=3 then _ else _);by_cases c:B.fin=3
     ·rw[if_pos c,if_pos c]
      have M:B.state<u.eh.length:=by
        rcases g.fin b B hB with⟨q,_⟩|⟨q,_⟩|⟨_,_,q⟩
        ·omega
        ·omega
        ·exact q
      have y:=g0 M;obtain⟨fr,U,V⟩:=L8 g f W C h (zbb hB c) y λw Q=>⟨rJ hB (g.Cf b B _ hB c y w Q),f.out b B _ hB c y w Q⟩
      rw[U,show(lM u as B).state=(El u as).idxOf B.state from if_pos c,V];exact⟨by omega,rfl,rfl⟩
     rw[if_neg c,if_neg c];have X:rR (lM u as B) r=rR B D:=by
       unfold rR;show(if B.fin=1 then B.next[0]? else if B.fin=2 then(if r.of (if B.fin=2 then nm u as B.cond else B.cond)=0 then B.next[1]? else B.next[0]?) else none)=_;by_cases m:B.fin=2
       ·rw[if_pos m,if_pos m,if_pos m,NT g f W C h (rJ hB (g.zO b B hB m)) (f.cond b B hB m)]
       ·simp_all
     rw[X]
     cases hn:rR B D with
     |none=>exact trivial
     | some t=>
       simp only;have ht:t∈B.next:=by
         unfold rR at hn
         repeat' split at hn
         all_goals grind
       have N:=g.nx b t (by grind[next]);exact WT Md (some b) t _ _ _ (g0 N) ⟨h.len,h.Bo,h.val,h.heap,by simp_all,h.polls⟩ (by grind)
theorem Yp{fuel:Nat} (Md:Nat):(runM u locals jH fuel Md none 0 (vM u heap)).As (runM (gG u as) locals jH fuel Md none 0 (vM (gG u as) heap)):=by
 have a:(gG u as).ef.length=(fu u as).length:=by
  show((fu u as).map _).length=_;rw[B5]
 refine WT g f W B6 Md none 0 _ _ _ (g0 (show 0<u.blocks.length from g.JN)) ⟨by simp[vM],by grind[vM],λv _=>?_,rfl,jb _,rfl⟩ (by simp_all);have e:∀n m,(List.replicate n (0:Int)).getD m 0=0:=by grind
 exact(e _ _).trans (e _ _).symm
end
open Dm
abbrev mK:=Nat×Int×Int×Int
theorem pJ{as oX:Nat->Int} {x:Vl} (h:∀w∈gO x,oX w=as w):keyOf oX x=keyOf as x:=by
 grind[OG,gO,yC,keyOf]
def KR(u:U) (P O:Nat->Prop) (as:Nat->Int) (k:mK) (w:Nat):Prop:=∃y c i,P w/\u.ef[w]? =some y/\jG y.op=true/\as w=(w:Int)/\At u w c i/\O c/\keyOf as y=k
structure NW (u:U) (P O:Nat->Prop) (as:Nat->Int) (S:mK->Option Nat):Prop where
 stay:∀v,v<u.ef.length->¬P v->as v=(v:Int)
 imp:∀(v:Nat) (x:Vl),u.ef[v]? =some x->jG x.op=false->as v=(v:Int)
 num:∀(v:Nat) (x:Vl),P v->u.ef[v]? =some x->jG x.op=true->
  (as v=(v:Int)/\∀(w:Nat) (y:Vl),u.ef[w]? =some y->jG y.op=true->as w=(w:Int)->xF u w v->keyOf as y≠keyOf as x)\/
  ∃(w:Nat) (y:Vl),as v=(w:Int)/\u.ef[w]? =some y/\jG y.op=true/\as w=(w:Int)/\xF u w v/\keyOf as y=keyOf as x
 closed:∀v w,P v->xF u w v->P w
 known:∀k w,S k=some w↔KR u P O as k w
def Ak(u:U)(P:Nat->Prop)(as:Nat->Int)(c:Nat)(l:List mK):Prop:=∀k,k∈l↔∃w,KR u P (·= c) as k w
def Pv(u:U)(HT:Nat->Prop)(b k v:Nat):Prop:=∃c i,At u v c i/\(HT c\/c=b/\i<k)
section
variable{u:U}(g:Good u){HT O:Nat->Prop}{as:Nat->Int}{S:mK->Option Nat}{b k v:Nat}{x:Vl}
include g
theorem BH{w p c i:Nat} {y:Vl} (a:At u w c i) (b:u.ef[w]? =some y) (d:jG y.op=true) (h:p∈gO y):xF u p w:=by
 rw[Ho]at d;obtain⟨c',j,e,f⟩:=g.xG w c i y a b (by omega) p h;exact⟨c',j,c,i,e,a,f⟩
theorem NW.part{P:Nat->Prop} (n:NW u P O as S) {w p:Nat} {y:Vl} (a:P w) (b:u.ef[w]? =some y) (d:jG y.op=true) (h:p∈gO y):P p:=by
 obtain⟨c,i,hc⟩:=g.xM w (by grind) trivial;exact n.closed w p a (by grind[BH])
theorem CV(hb:¬HT b) (hv:At u v b k) (IH:∀c,c≠b->kV (next u) c b->HT c) {w:Nat} (h:xF u w v):Pv u HT b k w:=by
 obtain⟨c,j,b',k',d,e,a⟩:=h;obtain⟨rfl,rfl⟩:=g.AH _ _ _ _ _ hv e;rcases a with⟨rfl,a⟩|⟨a,f⟩
 ·exact⟨c,j,d,.inr ⟨rfl,a⟩⟩
 ·exact⟨c,j,d,.inl (IH c a f)⟩
theorem GG(hb:¬HT b) (hv:At u v b k):¬Pv u HT b k v:=λ⟨c,i,a,d⟩=>by
 obtain⟨rfl,rfl⟩:=g.AH _ _ _ _ _ hv a
 simp_all
omit g in
theorem xY (hv:At u v b k) (w:Nat):Pv u HT b (k+1) w↔Pv u HT b k w\/w=v:=by
 constructor
 ·rintro ⟨c,i,h1,h2|⟨rfl,h2⟩⟩
  ·exact .inl ⟨c,i,h1,.inl h2⟩
  ·by_cases e:i=k
   ·subst e;obtain⟨B,e1,e2⟩:=h1;obtain⟨B',e3,e4⟩:=hv
    simp_all
   ·exact .inl ⟨c,i,h1,.inr ⟨rfl,by omega⟩⟩
 ·rintro(⟨c,i,h1,h2⟩|rfl)
  ·exact⟨c,i,h1,h2.imp id λh=>⟨h.1,by omega⟩⟩
  ·exact⟨b,k,hv,.inr ⟨rfl,by omega⟩⟩
theorem NW.step(n:NW u (Pv u HT b k) O as S) (hb:¬HT b) (hv:At u v b k) (hx:u.ef[v]? =some x) (IH:∀c,c≠b->kV (next u) c b->HT c) {oX:Nat->Int} (t:∀w,w≠v->oX w=as w) {S':mK->Option Nat}
  (E:jG x.op=false->oX v=(v:Int))
  (F:jG x.op=true->(oX v=(v:Int)/\∀(w:Nat) (y:Vl),u.ef[w]? =some y->jG y.op=true->as w=(w:Int)->xF u w v->keyOf as y≠keyOf as x)\/
   ∃(w:Nat) (y:Vl),oX v=(w:Int)/\u.ef[w]? =some y/\jG y.op=true/\as w=(w:Int)/\xF u w v/\keyOf as y=keyOf as x)
  (H:∀j w,S' j=some w↔S j=some w\/(w=v/\jG x.op=true/\oX v=(v:Int)/\O b/\keyOf as x=j)):NW u (Pv u HT b (k+1)) O oX S':=by
 have I:=GG g hb hv;have l:∀w,Pv u HT b k w->oX w=as w:=by grind
 have f:∀{w y},Pv u HT b k w->u.ef[w]? =some y->jG y.op=true->keyOf oX y=keyOf as y:=λa o q=>pJ λp z=>l p (n.part g a o q z);have G:jG x.op=true->keyOf oX x=keyOf as x:=by grind[pJ,CV,BH]
 refine⟨λw J a=>?_,λw y o q=>?_,λw y a o q=>?_,λw w' a C=>?_,λj w=>?_⟩
 ·rw[xY hv]at a;rw[t w (by omega)];exact n.stay w J (by simp_all)
 ·by_cases e:w=v
  ·simp_all
  ·rw[t w e];exact n.imp w y o q
 ·rw [xY hv]at a;rcases a with a|rfl
  ·rw [l w a,f a o q];rcases n.num w y a o q with⟨d,h⟩|⟨w',K,d,h,m,r,s,A⟩
   ·refine .inl ⟨d,λw' K L z M C=>?_⟩;have D:=n.closed w w' a C
    grind
   ·have D:=n.closed w w' a s
    grind
  grind[CV]
 ·rw[xY hv]at a⊢;rcases a with a|rfl
  ·exact .inl (n.closed w w' a C)
  grind[CV]
 ·rw [H,n.known];constructor
  ·rintro(⟨y,c,i,d,h,m,r,s,A,B⟩|⟨rfl,d,h,m,r⟩)
   ·exact⟨y,c,i,(xY hv w).2 (.inl d),h,m,by rw[l w d];exact r,s,A,by rw[f d h m];exact B⟩
   ·exact⟨x,b,k,(xY hv w).2 (.inr rfl),hx,d,h,hv,m,by simp_all⟩
  ·rintro⟨y,c,i,d,h,m,r,s,A,B⟩;rcases(xY hv w).1 d with d|rfl
   ·rw[l w d]at r;rw[f d h m]at B;exact .inl ⟨y,c,i,d,h,m,r,s,A,B⟩
   ·rw[hx]at h;cases h;obtain⟨rfl,rfl⟩:=g.AH _ _ _ _ _ hv s
    simp_all
section
variable (n:NW u (Pv u HT b k) O as S)(hb:¬HT b)(hv:At u v b k)(hx:u.ef[v]? =some x)(IH:∀c,c≠b->kV (next u) c b->HT c)(hO:∀c,O c↔kV (next u) c b)
include n hb hv hx IH
theorem NW.skip(a:jG x.op=false):NW u (Pv u HT b (k+1)) O as S:=
 n.step g hb hv hx IH (by omega) (λ_=>n.stay v (by grind) (GG g hb hv)) (by simp_all) (by simp_all)
include hO
theorem NW.there(z:jG x.op=true) {w:Nat} (hs:S (keyOf as x)=some w) {oX:Nat->Int} (f:oX v=(w:Int)) (a:∀w,w≠v->oX w=as w):NW u (Pv u HT b (k+1)) O oX S:=by
 have j:=GG g hb hv;obtain⟨y,c,i,l,m,o,p,d,A,q⟩:=(n.known _ _).1 hs;have r:w≠v:=by grind
 refine n.step g hb hv hx IH a (by simp_all) (λ_=> .inr ⟨w,y,f,m,o,p,⟨c,i,b,k,d,hv,?_⟩,q⟩) λs w'=>⟨.inl,λh=>h.elim id λh=>?_⟩
 ·by_cases e:c=b
  ·subst e;obtain⟨c',B,t,C⟩:=l;obtain⟨rfl,rfl⟩:=g.AH _ _ _ _ _ d t
   simp_all
  simp_all
 omega
theorem NW.fresh(l:jG x.op=true) (hs:S (keyOf as x)=none) {S':mK->Option Nat} (m:S' (keyOf as x)=some v) (r:∀k,k≠keyOf as x->S' k=S k):NW u (Pv u HT b (k+1)) O as S':=by
 have a:=n.stay v (by grind) (GG g hb hv);refine n.step g hb hv hx IH (by omega) (by omega) (λ_=> .inl ⟨a,λw y o d p i hk=>?_⟩) λf w=>?_
 ·have q:=CV g hb hv IH i;obtain⟨c,j,b',k',a1,a2,a3⟩:=i;obtain⟨rfl,rfl⟩:=g.AH _ _ _ _ _ hv a2;have:S (keyOf as x)=some w:=(n.known _ _).2 ⟨y,c,j,q,o,d,p,a1,(hO c).2 (a3.elim (λh=>by rw[h.1];exact kV.self _ _) λh=>h.2),hk⟩
  simp_all
 ·by_cases e:f=keyOf as x
  ·subst e;rw[m,hs];exact⟨λh=> .inr ⟨(Option.some.inj h).symm,l,a,(by grind[kV.self]),rfl⟩,by simp_all⟩
  grind
end
theorem Ak.step{c:Nat} {l:List mK} (a:Ak u (Pv u HT b k) as c l) (hb:¬HT b) (hv:At u v b k) (hx:u.ef[v]? =some x) (o:∀w y,Pv u HT b k w->u.ef[w]? =some y->jG y.op=true->∀p∈gO y,Pv u HT b k p) (q:jG x.op=true->∀p∈gO x,Pv u HT b k p) {oX:Nat->Int} (z:∀w,w≠v->oX w=as w)
  {t:List mK} (A:∀d,d∈t↔d∈l\/(c=b/\jG x.op=true/\oX v=(v:Int)/\keyOf as x=d)):Ak u (Pv u HT b (k+1)) oX c t:=by
 have B:=GG g hb hv;have h:∀w,Pv u HT b k w->oX w=as w:=by grind
 intro d;rw[A,a d];constructor
 ·rintro(⟨w,y,c',i,e,f,j,r,m,rfl,n⟩|⟨rfl,e,f,j⟩)
  ·exact⟨w,y,c',i,(by grind[xY]),f,j,by simp_all,m,rfl,by grind[pJ]⟩
  ·exact⟨v,x,c,k,(xY hv v).2 (.inr rfl),hx,e,f,hv,rfl,by grind[pJ]⟩
 ·rintro⟨w,y,c',i,e,f,j,r,m,rfl,n⟩;rcases(xY hv w).1 e with e|rfl
  ·rw[h w e]at r;rw[pJ λp s=>h p (o w y e f j p s)]at n;exact .inl ⟨w,y,c',i,e,f,j,r,m,rfl,n⟩
  ·rw[hx]at f;cases f;obtain⟨rfl,rfl⟩:=g.AH _ _ _ _ _ hv m;rw[pJ λp s=>h p (q j p s)]at n
   simp_all
end
open Dm
def kd(u:U)(I:Nat->Nat)(b:Nat):List Nat:=(List.range u.blocks.length).filter λt=>t != 0&&I t == b
theorem Kk{u:U} {I:Nat->Nat} {b t:Nat}:t∈kd u I b↔t<u.blocks.length/\t≠0/\I t=b:=by
 simp_all[kd,HS,Rf,uF,wB5,EE]
theorem XR(u:U)(I:Nat->Nat)(b:Nat):(kd u I b).Nodup:=ZB.filter _
def Rh(u:U)(vl:List Nat)(v:Nat):Prop:=∃c i,At u v c i/\c∈vl
theorem N2{u:U}{vl:List Nat}{b:Nat}:Pv u (·∈vl) b 0=Rh u vl:=funext λ_=>propext ⟨λ⟨c,i,a,d⟩=>⟨c,i,a,d.elim id λh=>by omega⟩,λ⟨c,i,a,d⟩=>⟨c,i,a,.inl d⟩⟩
theorem zax{u:U} {vl:List Nat} {b:Nat} {B:Bk} (e:u.blocks[b]? =some B):Pv u (·∈vl) b B.ef.length=Rh u (b::vl):=funext λv=>propext ⟨λ⟨c,i,a,d⟩=>⟨c,i,a,FZ.2 (d.elim .inr λh=> .inl h.1)⟩,λ⟨c,i,a,d⟩=>⟨c,i,a,(FZ.1 d).elim (λh=> .inr ⟨h,by
  subst h;obtain⟨f,g,j⟩:=a
  grind⟩) .inl⟩⟩
theorem KR.mono{u:U}{P O a:Nat->Prop}{as:Nat->Int}{k:mK}{w:Nat}(h:∀c,O c->a c):KR u P O as k w->KR u P a as k w:=λ⟨y,c,i,b,d,e,f,g,j,l⟩=>⟨y,c,i,b,d,e,f,g,h c j,l⟩
structure NS (u:U) (I:Nat->Nat) (as:Nat->Int) (S:mK->Option Nat) (st:List (Nat×Nat×List mK)) (vl:List Nat):Prop where
 nw:NW u (Rh u vl) (λc=>c∈st.map (·.1)) as S
 add:∀f∈st,Ak u (Rh u vl) as f.1 f.2.2
 nd:vl.Nodup
 vlt:∀b∈vl,b<u.blocks.length
 par:∀t∈vl,t≠0->I t∈vl
 cl:∀b∈vl,b ∉ st.map (·.1)->∀t∈kd u I b,t∈vl
 fr:∀f∈st,f.2.1<=(kd u I f.1).length/\∀(j t:Nat),(kd u I f.1)[j]? =some t->(t∈vl↔j<f.2.1)
 sv:∀f∈st,f.1∈vl
 sn:(st.map (·.1)).Nodup
 ch:∀pre f post,st=pre++f::post->∀c,c∈pre.map (·.1)\/c=f.1↔oA I c f.1
 zero:0∈vl
section
variable{u:U}{I:Nat->Nat}{as:Nat->Int}{S:mK->Option Nat}{pre st:List (Nat×Nat×List mK)}{vl:List Nat}{b m:Nat}{l:List mK}
theorem NS.pop(g:Good u) (n:NS u I as S (pre++[(b,m,l)]) vl) (D:m=(kd u I b).length) {S':mK->Option Nat} (C:∀k,S' k=if k∈l then none else S k):NS u I as S' pre vl:=by
 have a:=n.sn;rw[MA,Zq]at a;have hb:b ∉ pre.map (·.1):=by grind
 have hi:∀{f},f∈pre->f∈pre++[(b,m,l)]:=by simp_all
 have v:(b,m,l)∈pre++[(b,m,l)]:=by simp_all
 refine⟨⟨n.nw.stay,n.nw.imp,n.nw.num,n.nw.closed,λk w=>?_⟩,λf h=>n.add f (hi h),n.nd,n.vlt,n.par,λc hc E t ht=>?_,λf h=>n.fr f (hi h),λf h=>n.sv f (hi h),a.1,λp f q e=>n.ch p f (q++[(b,m,l)]) (by simp_all),n.zero⟩
 ·rw [C];by_cases hk:k∈l
  ·rw[if_pos hk];obtain⟨w',d⟩:=(n.add _ v k).1 hk;have s:=(n.nw.known k w').2 (d.mono (by simp_all));refine⟨by simp_all,λh=>?_⟩;have o:=(n.nw.known k w).2 (h.mono (by simp_all));rw[s]at o;cases o;obtain⟨_,c,i,_,_,_,_,a1,a2,_⟩:=d;obtain⟨_,c',F,_,_,_,_,b1,b2,_⟩:=h;obtain⟨rfl,rfl⟩:=g.AH _ _ _ _ _ a1 b1
   simp_all
  ·rw [if_neg hk,n.nw.known];constructor
   ·rintro⟨y,c,i,d,s,o,x,z,r,A⟩;refine⟨y,c,i,d,s,o,x,z,?_,A⟩;rw[MA]at r;rcases Bm.1 r with r|r
    ·exact r
    ·obtain rfl:c=b:=by simp_all
     exact absurd ((n.add _ v k).2 ⟨w,y,c,i,d,s,o,x,z,rfl,A⟩) hk
   grind[KR.mono,My]
 ·by_cases e:c=b
  ·subst e;obtain⟨j,B⟩:=mr.1 ht;have:=(jk.1 B).1;exact((n.fr _ v).2 j t B).2 (by simp_all)
  ·exact n.cl c hc (by simp_all) t ht
section
variable (n:NS u I as S (pre++[(b,m,l)]) vl){t:Nat}(ht:(kd u I b)[m]? =some t)
include n ht
theorem NS.new:t ∉ vl/\t<u.blocks.length/\t≠0/\I t=b:=by
 have a:=(n.fr (b,m,l) (by simp_all)).2 m t ht;obtain⟨c,d,e⟩:=Kk.1 (yC ht)
 simp_all
theorem NS.Yx(c:Nat):(c∈(pre++[(b,m,l)]).map (·.1)\/c=t)↔oA I c t:=by
 obtain ⟨_,_,a,d⟩:=n.new ht;have h:=n.ch pre (b,m,l) [] rfl c;have h':c∈(pre++[(b,m,l)]).map (·.1)↔oA I c b:=by
  rw[<-h,MA,Bm];simp
 rw[h'];constructor
 ·rintro(h|rfl)
  ·exact .up a (by simp_all)
  ·exact .refl _
 ·intro h
  cases h with
  |refl=>omega
  |up _ h=>simp_all
theorem NS.ready(g:Good u):NW u (Pv u (·∈vl) t 0) (λc=>c∈(pre++[(b,m,l)]).map (·.1)\/c=t) as S:=by
 rw[N2];obtain⟨h,_⟩:=n.new ht;refine⟨n.nw.stay,n.nw.imp,n.nw.num,n.nw.closed,λk w=>?_⟩;rw[n.nw.known];refine⟨KR.mono λ_=> .inl,λ⟨y,c,i,a1,a2,a3,a4,a,d,f⟩=>⟨y,c,i,a1,a2,a3,a4,a,d.elim id λe=>?_,f⟩⟩;subst e;obtain⟨c',j,b1,b2⟩:=a1;obtain⟨rfl,rfl⟩:=g.AH _ _ _ _ _ a b1
 simp_all
theorem NS.push(g:Good u) {oX:Nat->Int} {S':mK->Option Nat} {d:List mK} (S:NW u (Rh u (t::vl)) (λc=>c∈(pre++[(b,m,l)]).map (·.1)\/c=t) oX S') (G:Ak u (Rh u (t::vl)) oX t d) (hk:∀c l,c≠t->Ak u (Rh u vl) as c l->Ak u (Rh u (t::vl)) oX c l) :
  NS u I oX S' (pre++[(b,m+1,l)]++[(t,0,d)]) (t::vl):=by
 obtain⟨x,T,t3,t4⟩:=n.new ht;have y:(b,m,l)∈pre++[(b,m,l)]:=by simp_all
 have r:=n.sn;have F:=r;rw[MA,Zq]at r;have hb:b ∉ pre.map (·.1):=by grind
 have H:b∈vl:=n.sv _ y;have v:∀c,c∈(pre++[(b,m+1,l)]++[(t,0,d)]:List (Nat×Nat×List mK)).map (·.1)↔c∈(pre++[(b,m,l)]).map (·.1)\/c=t:=by grind
 have J:t ∉ (pre++[(b,m,l)]).map (·.1):=λh=>by
  obtain⟨f,w,K⟩:=GL.1 h;exact x (K▸n.sv f w)
 have a:∀{P:Nat×Nat×List mK->Prop},(∀f∈pre,P f)->P (b,m+1,l)->P (t,0,d)->∀f∈pre++[(b,m+1,l)]++[(t,0,d)],P f:=by grind
 have hi:∀{f},f∈pre->f∈pre++[(b,m,l)]:=by grind
 have A:∀{f},f∈pre->f.1≠t:=by grind
 have L:∀{f},f∈pre->f.1≠b:=by grind
 have B:b≠t:=by grind
 refine⟨?_,a (λf i=>hk _ _ (A i) (n.add f (hi i))) (show Ak u (Rh u (t::vl)) oX b l from hk _ _ B (n.add _ y)) G,ZO.2 ⟨x,n.nd⟩,λc hc=>(FZ.1 hc).elim (by omega) (n.vlt c),λc hc h0=>?_,λc hc M s hs=>?_,a (λf i=>⟨(n.fr f (hi i)).1,λj s o=>?_⟩) ⟨?_,λj s o=>?_⟩ ⟨Jw _,λj s o=>?_⟩,a (λf i=>wBU _ (n.sv f (hi i))) (by grind) (by simp),?_,λp f q e c=>?_,wBU _ n.zero⟩
 ·have:(λc=>c∈(pre++[(b,m+1,l)]++[(t,0,d)]:List (Nat×Nat×List mK)).map (·.1))=λc=>c∈(pre++[(b,m,l)]).map (·.1)\/c=t:=funext (by grind)
  grind
 ·rcases FZ.1 hc with rfl|hc
  ·grind
  ·exact wBU _ (n.par c hc h0)
 ·rw[v]at M;rcases FZ.1 hc with rfl|hc
  ·omega
  ·exact wBU _ (n.cl c hc (by grind) s hs)
 ·have w:=(n.fr f (hi i)).2 j s o;rw[<-w,FZ];refine⟨λh=>h.elim (λe=>?_) id,.inr⟩;subst e;have:=(Kk.1 (yC o)).2.2
  grind
 ·grind
 ·have w:=(n.fr _ y).2 j s o;show s∈t::vl↔j<m+1;rw[FZ,w];constructor
  ·rintro(rfl|h)
   ·grind[oG,XR]
   grind
  grind
 ·obtain⟨U,N,O⟩:=Kk.1 (yC o);refine⟨λh=>?_,by grind⟩;rcases FZ.1 h with rfl|h
  ·omega
  ·exact absurd (show t∈vl from(show I s=t from O)▸n.par s h N) x
 ·grind
 ·rcases List.eq_nil_or_concat q with rfl|⟨C,z,rfl⟩
  ·obtain⟨D,E⟩:=List.append_inj' e rfl;cases E;rw[<-D,<-n.Yx ht c];simp
  ·have e':pre++[(b,m+1,l)]=p++f::C:=by
    have:pre++[(b,m+1,l)]++[(t,0,d)]=(p++f::C)++[z]:=by rw[e];simp
    exact(List.append_inj' this rfl).1
   rcases List.eq_nil_or_concat C with rfl|⟨k,Q,rfl⟩
   ·obtain⟨D,E⟩:=List.append_inj' e' rfl;cases E;subst D;exact n.ch pre (b,m,l) [] rfl c
   ·have R:pre=p++f::k:=by
     have:pre++[(b,m+1,l)]=(p++f::k)++[Q]:=by rw[e'];simp
     exact(List.append_inj' this rfl).1
    exact n.ch p f (k++[(b,m,l)]) (by grind) c
end
theorem nw0(u:U) {as:Nat->Int} (h:∀v,v<u.ef.length->as v=(v:Int)):NW u (Pv u (·∈([]:List Nat)) 0 0) (λc=>c=0) as (λ_=>none):=by
 have a:∀v,¬Pv u (·∈([]:List Nat)) 0 0 v:=λv ⟨c,i,_,b⟩=>by
  simp_all
 exact⟨by simp_all,by grind,by simp_all,by simp_all,λk w=>⟨by simp_all,λ⟨_,_,_,d,_⟩=>by simp_all⟩⟩
theorem Z5{nx:Nat->List Nat}{c:Nat}:c=0↔kV nx c 0:=⟨by grind[kV.self],λh=>by simpa using h [0] .nil⟩
theorem NS.start(g:Good u) {l:List mK} (m:NW u (Rh u [0]) (λc=>c=0) as S) (n:Ak u (Rh u [0]) as 0 l) (o:∀b,b≠0->b<u.blocks.length->I b≠b):NS u I as S [(0,0,l)] [0]:=by
 have nb:=g.JN;refine⟨?_,by simp_all,by simp,by grind,by simp_all,λb hb p=>?_,λf d=>?_,by simp_all,by simp,λpre f post e c=>?_,by simp⟩
 ·simp_all
 ·simp_all
 ·rw[Me.1 d];refine⟨Jw _,λj t i=>⟨λh=>?_,by simp_all⟩⟩;exact absurd (Me.1 h) (Kk.1 (yC i)).2.1
 ·have k:pre=[]:=by
   cases pre with
   |nil=>rfl
   |cons a pre=>simp_all
  subst k;obtain⟨rfl,rfl⟩:=List.cons.inj e;refine⟨λh=>h.elim (by simp_all) λh=>h▸ .refl _,λh=>?_⟩
  cases h with
  |refl=>omega
  |up h0 _=>omega
theorem NS.done(g:Good u) {G:Gr} (a:Tree G I (λb=>b<u.blocks.length)) (n:NS u I as S [] vl):Hh u as:=by
 have all:∀k b,G.place b<=k->b<u.blocks.length->b∈vl:=by
  intro k
  induction k with
  | zero=>
    intro b hk hb;by_cases h0:b=0
    ·subst h0;exact n.zero
    ·have:=(a.up b hb h0).2;omega
  | succ k d=>
    intro b hk hb;by_cases h0:b=0
    ·subst h0;exact n.zero
    ·obtain⟨e,f⟩:=a.up b hb h0
     exact n.cl _ (by grind) (by simp) b (Kk.2 ⟨hb,h0,rfl⟩)
 have hP:∀v,v<u.ef.length->Rh u vl v:=λv hv=>by
  obtain⟨b,k,h⟩:=g.xM v hv trivial;exact⟨b,k,h,all _ b (jb _) (let⟨_,hB,_⟩:=h;(by grind))⟩
 exact⟨n.nw.imp,λv x hx c=>n.nw.num v x (by grind) hx c⟩
theorem NS.le(n:NS u I as S st vl):vl.length<=u.blocks.length:=by
 exact jr _ vl n.nd n.vlt
end
open Dm
def xm(v:Nat)(x:Vl):Vl:=if x.op=19\/x.op=20 then⟨2,0,0,(v:Int),[],0⟩ else x
def zM(u:U):U:={u with ef:=u.ef.mapIdx xm}
theorem G1{v:Nat}{x:Vl}(h:¬(x.op=19\/x.op=20)):xm v x=x:=if_neg h
theorem MJ{v:Nat}{x:Vl}(h:x.op=19\/x.op=20):xm v x=⟨2,0,0,(v:Int),[],0⟩:=if_pos h
theorem QQ{u:U} {v:Nat} {x:Vl} (h:u.ef[v]? =some x):(zM u).ef[v]? =some (xm v x):=by
 show(u.ef.mapIdx xm)[v]? =_
 simp_all
theorem PA{u:U} {v:Nat} {y:Vl} (h:(zM u).ef[v]? =some y):∃x,u.ef[v]? =some x/\y=xm v x:=by
 have h:(u.ef.mapIdx xm)[v]? =some y:=h
 grind
theorem oV{u:U} {v:Nat} {y:Vl} (h:(zM u).ef[v]? =some y):u.ef[v]? =some y\/y=⟨2,0,0,(v:Int),[],0⟩:=by
 obtain⟨x,a,rfl⟩:=PA h
 grind[MJ,G1]
theorem GH{u:U} {w:Nat} (h:mq u w):mq (zM u) w:=by
 obtain⟨x,b,a⟩:=h;have:=QQ b;rw[G1 (by rintro(c|c) <;> rw[c]at a <;> cases a)]at this;exact⟨x,this,a⟩
theorem VI{u:U} (g:Good u):Good (zM u) where
 nv:=by show(u.ef.mapIdx xm).length<=_;rw[List.length_mapIdx];exact g.nv
 JN:=g.JN
 nb:=g.nb
 ns:=g.ns
 st:=λs fs h=>by
  obtain⟨e,a,d⟩:=g.st s fs h
  grind[GH]
 xM:=λv h _=>g.xM v (by have h:v<(u.ef.mapIdx xm).length:=h;simp_all) trivial
 AH:=g.AH
 jz:=λv b k h=>by show v<(u.ef.mapIdx xm).length;rw[List.length_mapIdx];exact g.jz v b k h
 uS:=λv w b k x y e a d f i=>by
  rcases oV d with d|rfl
  ·rcases oV f with f|rfl
   ·exact g.uS v w b k x y e a d f i
   ·obtain ⟨z,n,o⟩:=PA f;by_cases c:z.op=19\/z.op=20
    ·have:=g.uS v w b k x z e a d n i;unfold iF at this
     grind
    ·rw[G1 c]at o;exact g.uS v w b k x _ e a d (o▸n) i
  ·cases i
 par:=λv b k x e a d=>by
  rcases oV a with a|rfl
  ·exact g.par v b k x e a d
  ·cases d
 Ae:=λv b k x B e a d f=>by
  rcases oV a with a|rfl
  ·exact g.Ae v b k x B e a d f
  ·cases d
 op:=λv x h=>by
  rcases oV h with h|rfl
  ·exact g.op v x h
  simp_all
 use:=λv x h w l=>by
  rcases oV h with h|rfl
  ·exact GH (g.use v x h w l)
  grind[absurd,gO,two,pe]
 leave:=λv x h q=>by
  rcases oV h with h|rfl
  ·exact g.leave v x h q
  ·cases q
 putAt:=λv x h m=>by
  rcases oV h with h|rfl
  ·exact g.putAt v x h m
  ·cases m
 param:=λv x h m=>by
  rcases oV h with h|rfl
  ·obtain⟨e,a,d⟩:=g.param v x h m;refine⟨e,a,λw y r t=>?_⟩;rcases oV r with r|rfl
   ·simp_all
   simp_all
  ·cases m
 fin:=λb B h=>by
  rcases g.fin b B h with h|⟨e,a,d⟩|h
  ·omega
  ·grind[GH]
  ·exact .inr (.inr h)
 nx:=g.nx
 ez:=g.ez
 yA:=g.yA
 DN:=g.DN
 reach:=g.reach
 xG:=λv b k x e a d w l=>by
  rcases oV a with a|rfl
  ·exact g.xG v b k x e a d w l
  grind[absurd,gO,two,pe]
 zE:=λv b k x B e a d f j w p i A=>by
  rcases oV a with a|rfl
  ·exact g.zE v b k x B e a d f j w p i A
  ·cases d
 Cn:=λv b k x fs e a d f w l=>by
  rcases oV a with a|rfl
  ·exact g.Cn v b k x fs e a d f w l
  ·cases d
 zO:=g.zO
 Cf:=g.Cf
