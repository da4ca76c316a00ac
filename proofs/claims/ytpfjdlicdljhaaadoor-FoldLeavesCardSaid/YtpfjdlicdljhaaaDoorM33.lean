/- Parts. -/
import Derived.Test.YtpfjdlicdljhaaaDoorM13
set_option maxHeartbeats 4000000
namespace Go.Proofs.YtpfjdlicdljhaaaDoor.Un
open Dm
def kF(l:List Nat):List Nat:=l.foldl (λa s=>if s∈a then a else a++[s]) []
theorem wO(l:List Nat) (s:Nat):kF (l++[s])=if s∈kF l then kF l else kF l++[s]:=by
 grind[kF]
theorem K7{P:List Nat->Prop} (h0:P []) (hs:∀l s,P l->P (l++[s])) (l:List Nat):P l:=by
 have:∀r:List Nat,P r.reverse:=λr=>by
  induction r <;> grind
 rw[<-List.reverse_reverse l]
 grind
theorem sr(l:List Nat):∀x,x∈kF l↔x∈l:=by
 induction l using K7 with
 |h0=>exact λ_=>Iff.rfl
 | hs l s a=>
   grind[wO,wBV,id]
theorem N7(l:List Nat):(kF l).Nodup:=by
 induction l using K7 with
 |h0=>exact List.nodup_nil
 | hs l s a=>
   grind[wO,wBt,Y2,List.nodup_nil,wBV]
theorem B7{l:List Nat} {x:Nat} (h:x∈l):l[l.idxOf x]? =some x:=by
 grind
theorem pV{l:List Nat} (a:l.Nodup) {i j x:Nat} (hi:l[i]? =some x) (b:l[j]? =some x):i=j:=by
 grind[jq,wA9,wB4,absurd]
theorem zac{l:List Nat}(a:l.Nodup){i x:Nat}(h:l[i]? =some x):l.idxOf x=i:=by grind
theorem NR{l:List Nat} {x y:Nat} (a:x∈l) (b:y∈l) (h:l.idxOf x=l.idxOf y):x=y:=by
 grind[B7,Option.some.inj]
theorem JY{p:Nat->Bool}:∀{l:List Nat} {k v:Nat},l[k]? =some v->p v=true->(l.filter p)[((l.take k).filter p).length]? =some v
 |[],k,v,h,_=>by simp_all
 | a::l,0,v,h,hp=>by
   simp_all
 | a::l,k+1,v,h,hp=>by
   have b:=JY (l:=l) (k:=k) (by simp_all) hp
   grind
theorem Yj{p:Nat->Bool} {l:List Nat} {j k w:Nat} (h:l[j]? =some w) (b:p w=true) (a:j<k):((l.take j).filter p).length<((l.take k).filter p).length:=by
 obtain ⟨c,rfl⟩:=jq.1 h;have e:l.take k=l.take j++l[j]::((l.take k).drop (j+1)):=by
  conv=>lhs;rw[<-WN j (l.take k)]
  rw[List.take_take,wBr (by omega)];congr 1;rw[V9 (by grind),List.getElem_take]
 grind
section
variable (u:U)(as:Nat->Int)
def stays(v:Nat):Bool:=as v == (v:Int)
def fq:List Nat:=u.blocks.flatMap λB=>B.ef.filter (stays as)
def sV:Nat->Nat->Nat
 |0,v=>v
 |k+1,v=>if 0<=as v/\as v≠(v:Int) then sV k (as v).toNat else v
def nm(v:Nat):Nat:=if sV as (u.ef.length+1) v∈fq u as then(fq u as).idxOf (sV as (u.ef.length+1) v) else 0
def HX:List Nat:=(fq u as).filterMap (λn=>match u.ef[n]? with
  |some x=>if leaves x.op=true then some x.state else none
  |none=>none)++u.blocks.filterMap λB=>if B.fin=3 then some B.state else none
def Eu:List Nat:=kF (HX u as)
def gX(x:Vl):Vl where
 op:=x.op
 a:=if 0<(if two x.op=true then 2 else if nP x.op=true then 1 else 0) then nm u as x.a else x.a
 b:=if two x.op=true then nm u as x.b else x.b
 n:=x.n
 args:=if x.op=21\/x.op=20 then x.args.map (nm u as) else x.args
 state:=if leaves x.op=true then(Eu u as).idxOf x.state else x.state
def kQ(B:Bk):Bk where
 ef:=(B.ef.filter (stays as)).map (fq u as).idxOf
 fin:=B.fin
 cond:=if B.fin=2 then nm u as B.cond else B.cond
 next:=B.next
 ez:=B.ez
 state:=if B.fin=3 then(Eu u as).idxOf B.state else B.state
def Us(f:Fm):Fm:=⟨f.func,f.pc,f.locals.map (nm u as),f.stack.map (nm u as)⟩
def gR:U where
 func:=u.func
 pc:=u.pc
 ef:=(fq u as).map λn=>gX u as (u.ef.getD n ⟨0,0,0,0,[],0⟩)
 blocks:=u.blocks.map (kQ u as)
 eh:=(Eu u as).map λs=>(u.eh.getD s []).map (Us u as)
end
def XY(u:U):Prop:=∀(v:Nat) (b:Nat) (k:Nat) (b':Nat) (k':Nat),At u v b k->At u v b' k'->b=b'/\k=k'
theorem Gl{u:U} (c:XY u) {b:Nat} {B:Bk} (a:u.blocks[b]? =some B):B.ef.Nodup:=by
 refine wA9.2 λi j hi d f e=>?_;have g:At u B.ef[i] b i:=⟨B,a,ig hi⟩
 have h:At u B.ef[i] b j:=⟨B,a,by rw[e];exact ig d⟩
 have:=(c _ _ _ _ _ g h).2;omega
theorem yh{u:U} {as:Nat->Int} (f:XY u):(fq u as).Nodup:=by
 unfold fq;have b:∀(l:List Bk) (i:Nat),(∀k B,l[k]? =some B->u.blocks[i+k]? =some B)->(l.flatMap λB=>B.ef.filter (stays as)).Nodup:=by
  intro l
  induction l with
  |nil=>simp_all
  | cons B l g=>
    intro i h;rw[List.flatMap_cons,wBt];have j:u.blocks[i]? =some B:=h 0 B rfl;refine⟨by grind[Gl],g (i+1) λk C hk=>by rw[show i+1+k=i+(k+1) by omega];simp_all,λa m c hc e=>?_⟩;subst e;obtain⟨C,n,d⟩:=W9.1 hc;obtain⟨k,hk⟩:=mm.1 n;obtain⟨o,p⟩:=mm.1 (Ic.1 m).1;obtain⟨q,r⟩:=mm.1 (Ic.1 d).1;have:=(f a i o (i+(k+1)) q ⟨B,j,p⟩ ⟨C,h (k+1) C (by simpa using hk),r⟩).1;omega
 exact b u.blocks 0 (by simp_all)
theorem Pt.short{nx:Nat->List Nat} {x:Nat}:∀{b l},Pt nx b l->x∈l->x≠b->∃a,Pt nx x a/\a.length<l.length
 | _,_,.nil,h,hn=>by
   simp_all
 | _,_,.step (p:=p) (b:=b) (l:=l) h e,c,hn=>by
   rcases Mc.1 c with rfl|c
   ·omega
   ·by_cases hp:x=p
    ·subst hp
     exact⟨l,h,by simp⟩
    ·obtain⟨a,d,f⟩:=Pt.short h c hp
     exact⟨a,d,by simp;omega⟩
theorem oV.YK{nx:Nat->List Nat} {a b:Nat} (c:oV nx a b) (d:oV nx b a) {l:List Nat} (e:Pt nx b l):a=b:=by
 have f:∀n (l:List Nat),l.length<=n->(Pt nx b l->a≠b->False)/\(Pt nx a l->a≠b->False):=by
  intro n
  induction n with
  | zero=>
    intro l e;have:l=[]:=by simp_all
    subst this
    exact⟨λh _=>(nomatch h),λh _=>(nomatch h)⟩
  | succ n m=>
    intro l e;refine⟨λh g=>?_,λh g=>?_⟩
    ·obtain⟨i,j,k⟩:=h.short (c l h) g
     grind
    ·obtain⟨i,j,k⟩:=h.short (d l h) g.symm
     grind
 by_cases h:a=b
 ·exact h
 ·exact((f l.length l (iZ _)).1 e h).elim
theorem oV.trans{nx:Nat->List Nat} {a b c:Nat} (g:oV nx a b) (j:oV nx b c):oV nx a c:=λl i=>by
 have d:∀{y l},Pt nx y l->b∈l->a∈l:=by
  intro y l k
  induction k with
  | nil=>
    intro f;obtain rfl:b=0:=by simp_all
    exact g _ .nil
  | step h e m=>
    intro f;rcases Mc.1 f with rfl|f
    ·exact g _ (.step h e)
    simp_all
 exact d i (j l i)
structure Fit (u:U) (as:Nat->Int):Prop where
 root:∀v,v<u.ef.length->0<=as v->∃w:Nat,as v=(w:Int)/\w<u.ef.length/\as w=(w:Int)
 up:∀(v w b k:Nat),as v=(w:Int)->At u v b k->∃c j,At u w c j/\(c=b/\j<=k\/c≠b/\oV (next u) c b)
 ZY:∀(v w:Nat),as v=(w:Int)->mz u v->mz u w
 use:∀(v:Nat) (x:Vl),u.ef[v]? =some x->stays as v=true->∀w∈g0 x,0<=as w
 st:∀(v:Nat) (x:Vl) (fs:List Fm),u.ef[v]? =some x->stays as v=true->leaves x.op=true->u.eh[x.state]? =some fs->∀w∈gY fs,0<=as w
 cond:∀(b:Nat) (B:Bk),u.blocks[b]? =some B->B.fin=2->0<=as B.cond
 out:∀(b:Nat) (B:Bk) (fs:List Fm),u.blocks[b]? =some B->B.fin=3->u.eh[B.state]? =some fs->∀w∈gY fs,0<=as w
class Th (P:Nat->Prop) (as:Nat->Int):Prop where
 h:∀v,stays as v=true->P v
instance (as:Nat->Int):Th (λ_=>True) as:=⟨λ_ _=>trivial⟩
instance (as:Nat->Int):Th (λv=>stays as v=true) as:=⟨λ_ h=>h⟩
section
variable{u:U}{P:Nat->Prop}{as:Nat->Int}[hP:Th P as] (g:Gd u P)(f:Fit u as)
include g
theorem iC{v:Nat}:v∈fq u as↔v<u.ef.length/\stays as v=true:=by
 unfold fq;rw[W9];constructor
 ·rintro⟨B,e,f⟩;obtain⟨a,c⟩:=Ic.1 f;obtain⟨b,d⟩:=mm.1 e;obtain⟨k,hk⟩:=mm.1 a;exact⟨g.jA v b k ⟨B,d,hk⟩,c⟩
 ·rintro⟨a,c⟩;obtain⟨b,k,B,d,hk⟩:=g.CE v a (hP.h v c)
  grind
theorem MH{b:Nat}{B:Bk}(a:u.blocks[b]? =some B):B.ef.Nodup:=Gl g.Hy a
omit hP in
theorem z6:(fq u as).Nodup:=yh g.Hy
omit g in
include f in
theorem XT {v:Nat} (hv:v<u.ef.length) (h0:0<=as v):∃w:Nat,sV as (u.ef.length+1) v=w/\as v=(w:Int)/\w<u.ef.length/\as w=(w:Int):=by
 obtain⟨w,h1,h2,h3⟩:=f.root v hv h0;refine⟨w,?_,h1,h2,h3⟩;unfold sV;split
 ·rename_i h;rw[h1];show sV as u.ef.length w=w;cases u.ef.length <;> simp_all[sV,if_neg]
 omega
include f
theorem Tf{v:Nat} (a:v<u.ef.length) (h0:0<=as v):∃w:Nat,as v=(w:Int)/\w∈fq u as/\nm u as v=(fq u as).idxOf w:=by
 obtain⟨w,e,b,c,h⟩:=XT f a h0;have d:w∈fq u as:=(iC g).2 ⟨c,by simp_all[stays]⟩;exact⟨w,b,d,by simp_all[nm,if_pos]⟩
omit f g
theorem K4{i n:Nat} {x:Vl} (hi:(fq u as)[i]? =some n) (a:u.ef[n]? =some x):(gR u as).ef[i]? =some (gX u as x):=by
 show((fq u as).map _)[i]? =_
 simp_all
theorem AB(g:Gd u P) {i:Nat} {y:Vl} (h:(gR u as).ef[i]? =some y):∃n x,(fq u as)[i]? =some n/\u.ef[n]? =some x/\y=gX u as x/\stays as n=true:=by
 have h:((fq u as).map _)[i]? =some y:=h;rw[AJ]at h
 cases hn:(fq u as)[i]? with
 |none=>simp_all
 | some n=>
   obtain⟨a,b⟩:=(iC g).1 (AI hn)
   simp_all
theorem QX{b:Nat} {B:Bk} (a:u.blocks[b]? =some B):(gR u as).blocks[b]? =some (kQ u as B):=by
 show(u.blocks.map _)[b]? =_
 simp_all
theorem B4{b:Nat} {a:Bk} (h:(gR u as).blocks[b]? =some a):∃B,u.blocks[b]? =some B/\a=kQ u as B:=by
 have h:(u.blocks.map _)[b]? =some a:=h
 grind
theorem WU(b:Nat):next (gR u as) b=next u b:=by
 unfold next
 cases hb:u.blocks[b]? with
 | none=>
   grind[gR]
 |some B=>rw[QX hb];rfl
theorem NU:next (gR u as)=next u:=funext WU
theorem Jn{h:Bk->Bk} (a:∀B,(h B).next=B.next) (b:Nat):∀(l:List Bk) (i:Nat),jk (l.map h) i b=jk l i b
 |[],_=>rfl
 | B::l,i=>by
   show((h B).next.filter (·= b)).map (λ_=>i)++jk (l.map h) (i+1) b=_;rw[a,Jn a b l];rfl
theorem NI(b:Nat):ahead (gR u as) b=ahead u b:=Jn (h:=kQ u as) (λ_=>rfl) b u.blocks 0
def pk(u:U) (as:Nat->Int) (b k:Nat):Nat:=match u.blocks[b]? with
 |some B=>((B.ef.take k).filter (stays as)).length
 |none=>0
theorem zaf{v b k:Nat} (h:At u v b k) (hs:stays as v=true):At (gR u as) ((fq u as).idxOf v) b (pk u as b k):=by
 obtain⟨B,a,c⟩:=h;refine⟨_,QX a,?_⟩;show((B.ef.filter (stays as)).map _)[pk u as b k]? =_
 grind[pk,JY]
theorem Zi{v b j k:Nat} (h:At u v b j) (hs:stays as v=true) (a:j<k):pk u as b j<pk u as b k:=by
 obtain⟨B,c,d⟩:=h
 simp_all[pk,Yj]
theorem Hg(g:Gd u P) {i b k:Nat} (h:At (gR u as) i b k):∃v j,At u v b j/\stays as v=true/\i=(fq u as).idxOf v/\k=pk u as b j/\(fq u as)[i]? =some v:=by
 obtain⟨m,c,hi⟩:=h;obtain⟨B,e,rfl⟩:=B4 c;have hi:((B.ef.filter (stays as)).map _)[k]? =some i:=hi;rw[AJ]at hi
 cases hv:(B.ef.filter (stays as))[k]? with
 |none=>simp_all
 | some v=>
   rw[hv]at hi;obtain rfl:(fq u as).idxOf v=i:=Option.some.inj hi;obtain⟨l,d⟩:=Ic.1 (AI hv);obtain⟨j,f⟩:=mm.1 l;have a:At u v b j:=⟨B,e,f⟩
   refine⟨v,j,a,d,rfl,?_,B7 ((iC g).2 ⟨g.jA _ _ _ a,d⟩)⟩;unfold pk;rw[e];exact pV (by grind[MH]) hv (JY f d)
theorem Qy(x:Vl):g0 (gX u as x)=(g0 x).map (nm u as):=by
 unfold g0;show(if x.op=21 then(gX u as x).args else if x.op=20 then(gX u as x).a::(gX u as x).b::(gX u as x).args.take 1 else if two x.op=true then[(gX u as x).a,(gX u as x).b] else if nP x.op=true then[(gX u as x).a] else[])=_;unfold gX;simp only;by_cases c:x.op=21
 ·simp[c]
 ·rw[if_neg c,if_neg c];by_cases d:x.op=20
  ·simp_all[if_pos,two,List.map_take]
  grind
include g f
theorem JM{w:Nat} (h:mz u w) (h0:0<=as w):mz (gR u as) (nm u as w):=by
 obtain⟨x,i,_⟩:=id h;obtain⟨r,a,b,c⟩:=Tf g f (by grind) h0;obtain⟨y,d,e⟩:=f.ZY w r a h;exact⟨gX u as y,by rw[c];exact K4 (B7 b) d,e⟩
theorem W3{w b k:Nat} (h:zk u w b k) (s:b<u.blocks.length) (h0:0<=as w):zk (gR u as) (nm u as w) b (pk u as b k):=by
 obtain⟨c,j,d,hc⟩:=h;obtain⟨r,t,v,z⟩:=Tf g f (g.jA _ _ _ d) h0;obtain⟨c',x,i,m⟩:=f.up w r c j t d;have hs:=((iC g).1 v).2;refine⟨c',pk u as c' x,by grind[zaf],?_⟩;rw[NU];rcases hc with⟨rfl,A⟩|⟨o,q⟩
 ·rcases m with⟨rfl,p⟩|⟨n,a⟩
  ·exact .inl ⟨rfl,Zi i hs (by omega)⟩
  simp_all
 ·rcases m with⟨rfl,p⟩|⟨n,a⟩
  ·simp_all
  ·refine .inr ⟨λe=>?_,a.trans q⟩;subst e;obtain⟨l,y⟩:=g.reach c' s;exact o (q.YK a y)
theorem Iv{w b:Nat} (h:pT u w b) (h0:0<=as w):pT (gR u as) (nm u as w) b:=by
 obtain⟨c,j,a,i⟩:=h;obtain⟨r,l,n,o⟩:=Tf g f (g.jA _ _ _ a) h0;obtain⟨c',m,k,d⟩:=f.up w r c j l a;refine⟨c',pk u as c' m,by grind[zaf,iC],?_⟩;rw[NU];rcases d with⟨rfl,_⟩|⟨_,e⟩
 ·exact i
 ·exact e.trans i
omit f in
theorem HR {s:Nat} (h:s∈HX u as):s<u.eh.length/\((∃(v b k:Nat) (x:Vl),At u v b k/\stays as v=true/\u.ef[v]? =some x/\leaves x.op=true/\x.state=s)\/∃(b:Nat) (B:Bk),u.blocks[b]? =some B/\B.fin=3/\B.state=s):=by
 unfold HX at h;rcases FM.1 h with h|h
 ·obtain⟨n,hn,hs⟩:=List.mem_filterMap.1 h;obtain⟨h1,hs1⟩:=(iC g).1 hn;have hx:=ig h1;rw[hx]at hs;simp only at hs;split at hs
  ·rename_i hl;cases hs;obtain⟨b,k,LU⟩:=g.CE n h1 (hP.h n hs1);exact⟨g.leave n _ hx hl,by grind⟩
  ·cases hs
 ·obtain ⟨B,hB,hs⟩:=List.mem_filterMap.1 h;obtain⟨b,hb⟩:=mm.1 hB;split at hs
  ·rename_i h3;cases hs;refine⟨?_,by grind⟩;rcases g.fin b B hb with⟨h4,_⟩|⟨h4,_⟩|⟨_,_,h4⟩
   ·omega
   ·omega
   ·exact h4
  ·cases hs
omit g f in
theorem Rf {s:Nat} {fs:List Fm} (h:s∈Eu u as) (hs:u.eh[s]? =some fs):(gR u as).eh[(Eu u as).idxOf s]? =some (fs.map (Us u as)):=by
 show((Eu u as).map _)[_]? =_
 grind
omit f in
theorem zaE {i:Nat} {gs:List Fm} (h:(gR u as).eh[i]? =some gs):∃s fs,s∈Eu u as/\u.eh[s]? =some fs/\gs=fs.map (Us u as):=by
 have h:((Eu u as).map _)[i]? =some gs:=h;rw[AJ]at h
 cases hn:(Eu u as)[i]? with
 |none=>simp_all
 | some s=>
   rw[hn]at h;have hm:s∈Eu u as:=AI hn;have hl:=(HR g ((sr _ _).1 hm)).1
   grind
omit g f in
theorem Ll (fs:List Fm):gY (fs.map (Us u as))=(gY fs).map (nm u as):=by
 unfold gY;rw[List.flatMap_map,List.map_flatMap];congr 1;funext x;rw[Qi];rfl
omit f in
theorem zbt {v:Nat} {x:Vl} (hs:stays as v=true) (hx:u.ef[v]? =some x) (hl:leaves x.op=true):x.state∈Eu u as:=by
 refine(sr _ _).2 (Wn _ (List.mem_filterMap.2 ⟨v,by grind[iC,jq],?_⟩))
 simp_all
omit g f in
theorem ZR {b:Nat} {B:Bk} (hB:u.blocks[b]? =some B) (h3:B.fin=3):B.state∈Eu u as:=
 (sr _ _).2 (List.mem_append_right _ (List.mem_filterMap.2 ⟨B,AI hB,by rw[if_pos h3]⟩))
omit f in
theorem Oc {v b k:Nat} {x:Vl} (h:At u v b k) (hx:u.ef[v]? =some x) (hh:hY x.op=true):∀{w j:Nat} {y:Vl},At u w b j->u.ef[w]? =some y->j<=k->hY y.op=true:=by
 have key:∀(n v k:Nat) (x:Vl),At u v b k->u.ef[v]? =some x->hY x.op=true->∀{w j:Nat} {y:Vl},At u w b j->u.ef[w]? =some y->j+n=k->hY y.op=true:=by
  intro n
  induction n with
  | zero=>
    intro v k x h hx hh w j y hw hy e;obtain rfl:j=k:=by omega
    obtain⟨B,h1,h2⟩:=h;obtain⟨B',h3,h4⟩:=hw
    simp_all
  | succ n ih=>
    intro v k x h hx hh w j y hw hy e;obtain⟨k,rfl⟩:∃i,k=i+1:=⟨k-1,by omega⟩
    obtain⟨B,h1,h2⟩:=h;have hk:k<B.ef.length:=by have:=(jq.1 h2).1;omega
    have h3:At u (B.ef[k]) b k:=⟨B,h1,ig hk⟩
    have hz:=ig (g.jA _ _ _ h3);exact ih _ k _ h3 hz (g.zW _ _ _ _ _ _ ⟨B,h1,h2⟩ h3 hx hz hh) hw hy (by omega)
 exact λ{w j y} hw hy hj=>key (k-j) v k x h hx hh hw hy (by omega)
theorem Uc:Good (gR u as):=by
 have hL:(fq u as).length<=u.ef.length:=jD _ _ (z6 g) λv h=>((iC g).1 h).1;have hS:(Eu u as).length<=u.eh.length:=jD _ _ (N7 _) λs hs=>(HR g ((sr _ _).1 hs)).1;have hlen:(gR u as).ef.length=(fq u as).length:=by
  show((fq u as).map _).length=_;rw[BW]
 have J:(gR u as).blocks.length=u.blocks.length:=by
  show(u.blocks.map _).length=_;rw[BW]
 have M:(gR u as).eh.length=(Eu u as).length:=by
  show((Eu u as).map _).length=_;rw[BW]
 have W:∀s fs,s∈Eu u as->u.eh[s]? =some fs->∀w∈gY fs,0<=as w:=by
  intro s fs hs q w e;rcases(HR g ((sr _ _).1 hs)).2 with⟨v,b,k,x,_,a,I,C,rfl⟩|⟨b,B,c,a,rfl⟩
  ·exact f.st v x fs I a C q w e
  ·exact f.out b B fs c a q w e
 have l:∀{i b k:Nat} {y:Vl},At (gR u as) i b k->(gR u as).ef[i]? =some y->∃v j x,At u v b j/\stays as v=true/\i=(fq u as).idxOf v/\k=pk u as b j/\u.ef[v]? =some x/\y=gX u as x:=by
  intro i b k y N m;obtain⟨v,j,c,a,I,C,r⟩:=Hg g N;obtain⟨n,x,L,T,X,_⟩:=AB g m;rw[r]at L;cases L;exact by grind
 have S:∀{v b k:Nat},At u v b k->b<u.blocks.length:=λ⟨B,h,_⟩=>(jq.1 h).1
 refine
  { nv:=by rw[hlen];have:=g.nv;omega
    Jz:=by rw[J];exact g.Jz
    nb:=by rw[J];exact g.nb
    ns:=by rw[M];have:=g.ns;omega
    st:=?_,CE:=?_,Hy:=?_,jA:=?_,zW:=?_,par:=?_,By:=?_,op:=?_,use:=?_,leave:=?_,putAt:=?_,param:=?_,fin:=?_,nx:=?_,ez:=?_,Aw:=?_,ET:=?_,reach:=?_,A6:=?_,AX:=?_,Dx:=?_,A2:=?_,De:=?_}
 ·intro s gs hs;obtain⟨s0,fs,c,a,rfl⟩:=zaE g hs;obtain⟨I,C,r⟩:=g.st s0 fs a;refine⟨by simpa using I,by simpa using C,λf' Y=>?_⟩;obtain⟨O,Z,rfl⟩:=Jy.1 Y;obtain⟨h6,h7,h8,h9⟩:=r O Z;have ag:∀w,w∈O.locals\/w∈O.stack->0<=as w:=λw e=>W s0 fs c a w (by
   grind[gY])
  refine⟨by show(O.locals.map _).length<=40;simpa using h6,by show(O.stack.map _).length<=60;simpa using h7,λv hv=>?_,λv hv=>?_⟩
  ·obtain⟨w,e,rfl⟩:=Jy.1 (show v∈O.locals.map (nm u as) from hv)
   grind[JM]
  ·obtain⟨w,e,rfl⟩:=Jy.1 (show v∈O.stack.map (nm u as) from hv)
   grind[JM]
 ·intro i hi _;rw[hlen]at hi;have hn:=ig hi;obtain⟨c,a⟩:=(iC g).1 (AI hn);obtain⟨b,k,N⟩:=g.CE _ c (hP.h _ a);refine⟨b,pk u as b k,?_⟩;have:=zaf N a
  grind[zac,z6]
 ·intro i b k b' k' h h';obtain⟨v,j,c,a,I,C,r⟩:=Hg g h;obtain⟨v',j',L,T,X,g4,U⟩:=Hg g h';rw[r]at U;cases U;obtain⟨rfl,rfl⟩:=g.Hy _ _ _ _ _ c L;omega
 ·grind[Hg,jq]
 ·intro i i' b k y y' h h' m aa hh;obtain⟨v,j,x,c,a,_,C,r,rfl⟩:=l h m;obtain⟨v',j',x',L,T,_,g4,U,rfl⟩:=l h' aa;show hY x'.op=true;refine Oc g c r hh L U ?_
  grind[Zi]
 ·intro i b k y h m F;obtain⟨v,j,x,c,_,_,_,r,rfl⟩:=l h m;exact g.par v b j x c r F
 ·intro i b k y R h m F d;obtain⟨v,j,x,c,_,_,_,r,rfl⟩:=l h m;obtain⟨B,A,rfl⟩:=B4 d;obtain⟨h6,h7⟩:=g.By v b j x B c r F A;refine⟨h6,?_⟩;have D:x.op=21:=F;show(if x.op=21\/x.op=20 then x.args.map (nm u as) else x.args).length=B.ez.length
  simp_all
 ·intro i y m;obtain⟨n,x,_,a,rfl,_⟩:=AB g m;exact g.op n x a
 ·intro i y m w e;obtain⟨n,x,_,a,rfl,C⟩:=AB g m;rw[Qy]at e;obtain⟨w0,o,rfl⟩:=Jy.1 e;exact JM g f (g.use n x a w0 o) (f.use n x a C w0 o)
 ·intro i y m hl;obtain⟨n,x,_,a,rfl,C⟩:=AB g m;have E:leaves x.op=true:=hl;rw[M];show(if leaves x.op=true then(Eu u as).idxOf x.state else x.state)<_;rw[if_pos E]
  grind[wBk,zbt]
 ·intro i y m F;obtain⟨n,x,_,a,rfl,C⟩:=AB g m;have D:x.op=20:=F;show(if x.op=21\/x.op=20 then x.args.map (nm u as) else x.args).length=1;rw[if_pos (.inr D),BW];exact g.putAt n x a D
 ·intro i y m F;obtain⟨n,x,c,a,rfl,C⟩:=AB g m;obtain⟨L,T,X⟩:=g.param n x a F;refine⟨L,T,λw z hz ab ac=>?_⟩;obtain⟨n',x',ae,G,rfl,_⟩:=AB g hz;obtain rfl:=X n' x' G ab ac;exact pV (z6 g) ae c
 ·intro b R d;obtain⟨B,A,rfl⟩:=B4 d;rcases g.fin b B A with⟨c,a⟩|⟨c,a,I⟩|⟨c,a,I⟩
  ·exact .inl ⟨c,a⟩
  ·refine .inr (.inl ⟨c,a,?_⟩);show mz _ (if B.fin=2 then nm u as B.cond else B.cond);rw[if_pos c];exact JM g f I (f.cond b B A c)
  ·refine .inr (.inr ⟨c,a,?_⟩);rw[M];show(if B.fin=3 then(Eu u as).idxOf B.state else B.state)<_;rw[if_pos c];exact wBk (ZR A c)
 ·intro b t V;rw[WU]at V;rw[J];exact g.nx b t V
 ·intro b R d;obtain⟨B,A,rfl⟩:=B4 d;rw[NI];exact g.ez b B A
 ·rw[NI];exact g.Aw
 ·intro b R d a t V;obtain⟨B,A,rfl⟩:=B4 d;rw[NI];exact g.ET b B A a t V
 ·intro b hb;rw[J]at hb;rw[NU];exact g.reach b hb
 ·intro i b k y h m F w e;obtain⟨v,j,x,c,a,_,rfl,r,rfl⟩:=l h m;rw[Qy]at e;obtain⟨w0,o,rfl⟩:=Jy.1 e;exact W3 g f (g.A6 v b j x c r F w0 o) (S c) (f.use v x r a w0 o)
 ·intro i b k y R h m F d j w p e hp;obtain⟨v,j0,x,c,a,_,rfl,r,rfl⟩:=l h m;obtain⟨B,A,rfl⟩:=B4 d;have D:x.op=21:=F;have e:(if x.op=21\/x.op=20 then x.args.map (nm u as) else x.args)[j]? =some w:=e;rw[if_pos (.inl D),AJ]at e
  cases hq:x.args[j]? with
  |none=>simp_all
  | some w0=>
    rw[hq]at e;obtain rfl:nm u as w0=w:=Option.some.inj e;exact Iv g f (g.AX v b j0 x B c r D A j w0 p hq hp) (f.use v x r a w0 (by
      unfold g0
      grind))
 ·intro i b k y gs h m hl H w e;obtain⟨v,j,x,c,a,_,rfl,r,rfl⟩:=l h m;have E:leaves x.op=true:=hl;have P:(gX u as x).state=(Eu u as).idxOf x.state:=by
   show(if leaves x.op=true then _ else _)=_;rw[if_pos E]
  have Q:=g.leave v x r E;have q:=ig Q;rw[P,Rf (by grind) q]at H;cases H;rw[Ll]at e;obtain⟨w0,o,rfl⟩:=Jy.1 e;exact W3 g f (g.Dx v b j x _ c r E q w0 o) (S c) (f.st v x _ r a E q w0 o)
 ·intro b R d a;obtain⟨B,A,rfl⟩:=B4 d;have G:B.fin=2:=a;show pT _ (if B.fin=2 then nm u as B.cond else B.cond) b;rw[if_pos G];exact Iv g f (g.A2 b B A G) (f.cond b B A G)
 ·intro b R gs d I H w e;obtain⟨B,A,rfl⟩:=B4 d;have K:B.fin=3:=I;have P:(kQ u as B).state=(Eu u as).idxOf B.state:=by
   show(if B.fin=3 then _ else _)=_;rw[if_pos K]
  have Q:B.state<u.eh.length:=by
   rcases g.fin b B A with⟨C,_⟩|⟨C,_⟩|⟨_,_,C⟩
   ·omega
   ·omega
   ·exact C
  have q:=ig Q;rw[P,Rf (ZR A K) q]at H;cases H;rw[Ll]at e;obtain⟨w0,o,rfl⟩:=Jy.1 e;exact Iv g f (g.De b B _ A K q w0 o) (f.out b B _ A K q w0 o)
end
theorem TB{u:U}{as:Nat->Int}(g:Good u){v:Nat}:v∈fq u as↔v<u.ef.length/\stays as v=true:=iC g
open Dm
section
variable (u:U)(kp:Nat->Bool)
def iY(b:Nat):Nat:=if kp b=true then((List.range b).filter kp).length else 0
def qw(i:Nat)(ps:List Nat):List Nat:=(List.range ps.length).filter λj=>kp (ps.getD j 0)&&(next u (ps.getD j 0)).contains i
def jG(i:Nat)(ps:List Nat):List Nat:=(qw u kp i ps).map λj=>iY kp (ps.getD j 0)
def mS(i:Nat)(ps args:List Nat):List Nat:=(qw u kp i ps).map λj=>args.getD j 0
def L7:Bk:=⟨[],0,0,[],[],0⟩
def kU:List Nat:=(List.range u.blocks.length).filter kp
def BT(b:Nat):Bk:={u.blocks.getD b L7 with next:=(u.blocks.getD b L7).next.map (iY kp),ez:=jG u kp b (u.blocks.getD b L7).ez}
structure Cut (u':U):Prop where
 func:u'.func=u.func
 pc:u'.pc=u.pc
 eh:u'.eh=u.eh
 blocks:u'.blocks=(kU u kp).map (BT u kp)
 len:u'.ef.length=u.ef.length
 By:∀(v b k:Nat) (x:Vl) (B:Bk),At u v b k->u.ef[v]? =some x->x.op=21->kp b=true->u.blocks[b]? =some B->u'.ef[v]? =some {x with args:=mS u kp b B.ez x.args}
 same:∀(v:Nat) (x:Vl),u.ef[v]? =some x->¬(x.op=21/\∃b k,At u v b k/\kp b=true)->u'.ef[v]? =some x
structure Jc (az kL:List Int):Prop where
 len:kL.length=az.length
 gone:∀(v b k:Nat),At u v b k->kp b=false->v<az.length->kL[v]? =some (-1)
 same:∀(v:Nat),(¬∃b k,At u v b k/\kp b=false)->kL[v]? =az[v]?
end
section
variable{u u':U}{kp:Nat->Bool}
theorem filter_all{p:Nat->Bool}{l:List Nat}(h:∀x∈l,p x=true):l.filter p=l:=List.filter_eq_self.2 h
theorem O7(hk:∀b,b<u.blocks.length->kp b=true) {b:Nat} (a:b<u.blocks.length):iY kp b=b:=by
 unfold iY;rw[if_pos (hk b a),filter_all (by grind),QV]
theorem MX(g:Good u) (hk:∀b,b<u.blocks.length->kp b=true) {b:Nat} {B:Bk} (d:u.blocks[b]? =some B):qw u kp b B.ez=List.range B.ez.length:=by
 unfold qw;refine filter_all λj a=>?_;have a:=Re.1 a;rw[EN,ig a];have e:B.ez[j]∈ahead u b:=by rw[<-g.ez b B d];exact BG a
 obtain⟨q,f,h,i,c⟩:=tj.1 e;rw[wX]at c;rw[Option.getD_some,c,hk q (by grind),Yq,wBP]
 grind[next]
theorem KA(l:List Nat) (d:Nat):(List.range l.length).map (λj=>l.getD j d)=l:=by
 refine YI λj=>?_
 grind
theorem Qs(g:Good u) (hk:∀b,b<u.blocks.length->kp b=true) {b:Nat} {B:Bk} (c:u.blocks[b]? =some B):BT u kp b=B:=by
 have e:u.blocks.getD b L7=B:=by rw[EN,c];rfl
 unfold BT;rw[e];have f:B.next.map (iY kp)=B.next:=by
  have:∀t∈B.next,iY kp t=t:=λt i=>O7 hk (g.nx b t (by grind[next]));rw[UL this,List.map_id''];exact λ_=>rfl
 have k:jG u kp b B.ez=B.ez:=by
  unfold jG;rw[MX g hk c];have:∀j∈List.range B.ez.length,iY kp (B.ez.getD j 0)=B.ez.getD j 0:=λj a=>by
   have a:=Re.1 a;rw[EN,ig a,Option.getD_some];have h:B.ez[j]∈ahead u b:=by rw[<-g.ez b B c];exact BG a
   obtain⟨q,l,f,_,d⟩:=tj.1 h;rw[wX]at d;rw[d];exact O7 hk (by grind)
  rw[UL this];exact KA _ _
 simp_all
theorem Cut.eq(g:Good u) (hk:∀b,b<u.blocks.length->kp b=true) (c:Cut u kp u'):u' = u:=by
 have m:u'.blocks=u.blocks:=by
  rw[c.blocks,kU,filter_all (by simp_all)];refine YI λb=>?_;by_cases h:b<u.blocks.length
  ·grind[List.getElem?_range,Qs,ig]
  ·simp_all
 have n:u'.ef=u.ef:=by
  refine YI λv=>?_;by_cases h:v<u.ef.length
  ·have d:=ig h;generalize u.ef[v]=x at*;rw[d];by_cases hp:x.op=21/\∃b k,At u v b k/\kp b=true
   ·obtain ⟨f,b,k,a,i⟩:=hp;obtain⟨B,j,l⟩:=id a;rw[c.By v b k x B a d f i j];have e:mS u kp b B.ez x.args=x.args:=by
     unfold mS;rw[MX g hk j,<-(g.By v b k x B a d f j).2];exact KA _ _
    rw[e]
   ·exact c.same v x d hp
  ·rw[Xa (by rw[c.len];omega),Xa (by omega)]
 have f:=c.func;have o:=c.pc;have p:=c.eh;cases u;cases u'
 simp_all
theorem Jc.eq{az kL:List Int} (c:Jc u kp az kL) (hk:∀b,b<u.blocks.length->kp b=true):kL=az:=by
 refine YI λv=>c.same v ?_;rintro⟨b,k,⟨B,a,_⟩,h⟩
 grind
end
open Dm
theorem LD{l L:List Nat} (h:l <+: L) {v:Nat} (a:v∈l):L.idxOf v=l.idxOf v:=by
 obtain⟨r,rfl⟩:=h
 grind
theorem Fq(l r:List Nat):kF l <+: kF (l++r):=by
 induction r using K7 with
 |h0=>simp_all
 | hs r s a=>
   grind[Jx,wO,List.prefix_append]
section
variable{u:U}{as:Nat->Int}
def jw(u:U) (as:Nat->Int) (i j:Nat):List Nat:=(u.blocks.take i).flatMap (λB=>B.ef.filter (stays as))++(match u.blocks[i]? with
 |some B=>(B.ef.take j).filter (stays as)
 |none=>[])
theorem Jp:jw u as 0 0=[]:=by
 grind[jw]
theorem OJ{i:Nat} {B:Bk} (a:u.blocks[i]? =some B):jw u as i B.ef.length=jw u as (i+1) 0:=by
 unfold jw;rw[a];obtain⟨b,rfl⟩:=jq.1 a
 grind[Qh,List.flatMap_singleton,Js,stays]
theorem Qu:jw u as u.blocks.length 0=fq u as:=by
 simp_all[jw,fq,Js,Xa,iZ,GD]
theorem Jj{i j v:Nat} {B:Bk} (a:u.blocks[i]? =some B) (b:B.ef[j]? =some v):jw u as i (j+1)=if stays as v=true then jw u as i j++[v] else jw u as i j:=by
 unfold jw;rw[a];obtain⟨c,rfl⟩:=jq.1 b
 grind[Qh,Jx]
theorem Fj{i j:Nat} {B:Bk} (a:u.blocks[i]? =some B):jw u as i j <+: fq u as:=by
 unfold jw fq;rw[a];obtain⟨b,rfl⟩:=jq.1 a;have e:u.blocks=u.blocks.take i++u.blocks[i]::u.blocks.drop (i+1):=by
  conv=>lhs;rw[<-WN i u.blocks]
  rw[V9 b]
 grind[stays,WN,Jx,List.prefix_append]
theorem ZI(c:XY u) {i j v:Nat} {B:Bk} (a:u.blocks[i]? =some B) (d:B.ef[j]? =some v) (hs:stays as v=true):(fq u as).idxOf v=(jw u as i j).length/\v ∉ jw u as i j:=by
 have b:=Fj (as:=as) (j:=j+1) a;rw[Jj a d,if_pos hs]at b;have e:=yh (as:=as) c;obtain⟨r,f⟩:=b
 grind
theorem Ez(c:∀v b k,At u v b k->v<u.ef.length) {v:Nat} (a:v∈fq u as):v<u.ef.length:=by
 unfold fq at a;obtain⟨B,d,a⟩:=W9.1 a;obtain⟨b,e⟩:=mm.1 d;obtain⟨k,hk⟩:=mm.1 (Ic.1 a).1;exact c v b k ⟨B,e,hk⟩
theorem Pe{n:Nat} (h:∀v,v<n->as v<(n:Int)):∀(k v:Nat),v<n->sV as k v<n
 |0,_,hv=>hv
 | k + 1,v,hv=>by
   unfold sV;split
   ·rename_i a
    exact Pe h k _ (by simp_all)
   ·exact hv
def qo(u:U) (l:List Nat):List Nat:=l.filterMap λn=>match u.ef[n]? with
 |some x=>if leaves x.op=true then some x.state else none
 |none=>none
def zV(l:List Bk):List Nat:=l.filterMap λB=>if B.fin=3 then some B.state else none
theorem MF:HX u as=qo u (fq u as)++zV u.blocks:=rfl
end
open Dm
def zcj(u:U) (v:Nat):Prop:=(∃x,u.ef[v]? =some x/\(x.op=19\/x.op=20\/x.op=22\/x.op=23))\/ (∃(i:Nat) (x:Vl) (fs:List Fm),u.ef[i]? =some x/\leaves x.op=true/\u.eh[x.state]? =some fs/\v∈gY fs)\/ (∃(b:Nat) (B:Bk),u.blocks[b]? =some B/\B.fin=2/\v=B.cond)\/ (∃(b:Nat) (B:Bk) (fs:List Fm),u.blocks[b]? =some B/\B.fin=3/\u.eh[B.state]? =some fs/\v∈gY fs)
inductive Live (u:U):Nat->Prop
 |root {v:Nat} (h:zcj u v):Live u v
 |use {v w:Nat} {x:Vl} (h:Live u v) (a:u.ef[v]? =some x) (b:w∈g0 x):Live u w
def AL(l:List Vl):Prop:=∀x∈l,x.args.length<=2
section
variable{ops:List Int}
theorem MU:∀(i:Nat) (s:Ds) (l:List Nat),(some_ ops i s l).2.ef=s.ef
 |0,_,_=>rfl
 | i+1,s,l=>by
   unfold some_;rw[MU i];rfl
theorem zT(s:Ds):(ft ops s).2.ef=s.ef:=by
 show(some_ ops (num ops s 4).1 (num ops s 4).2 []).2.ef=s.ef;rw[MU];rfl
theorem Iq{s:Ds} {x:Vl} (h:AL s.ef) (c:x.args.length<=2):AL (put s x).ef:=λy a=>by
 have a:y∈s.ef++[x]:=a;rcases FM.1 a with b|b
 ·exact h y b
 simp_all
theorem xW{s:Ds}{x:Vl}(h:AL s.ef)(a:x.args.length<=2):AL (iz s x).ef:=Iq h a
theorem Wc{s:Ds} {k a b:Nat} (h:AL s.ef):AL (qa ops s k a b).ef:=by
 have hs:AL (ft ops s).2.ef:=by rw[zT];exact h
 unfold qa;by_cases c:k<12
 ·simp_all[if_pos,xW,vl]
 rw[if_neg c];by_cases c:k=12
 ·simp_all[if_pos,xW,num,vl]
 rw[if_neg c];by_cases c:k=13
 ·simp_all[if_pos,xW,num,vl]
 rw[if_neg c];by_cases c:k=14
 ·simp_all[if_pos,xW,vl]
 rw[if_neg c];by_cases c:k=15
 ·simp_all[if_pos,Iq,num,vl]
 rw[if_neg c];by_cases c:k=16
 ·simp_all[if_pos,Iq,fx,vl]
 rw[if_neg c];by_cases c:k=17
 ·simp_all[if_pos,Iq,vl]
 rw[if_neg c];by_cases c:k=18
 ·simp_all[if_pos,Iq,vl]
 simp_all[if_neg,xW,num,vl]
theorem QA{s:Ds}(h:AL s.ef):AL (si ops s).ef:=Wc h
theorem R0:∀(i:Nat) (s:Ds),AL s.ef->AL (rows ops i s).ef
 |0,_,h=>h
 | i+1,s,h=>by
   unfold rows;split
   ·exact R0 i _ (QA h)
   ·exact h
theorem DA{s:Ds}(h:AL s.ef):AL (row ops s).ef:=R0 _ _ h
theorem Lu{s:Ds} {v:Nat} {l:List Nat} (h:AL s.ef) (a:l.length<=2):AL (setArgs s v l).ef:=λy b=>by
 obtain⟨i,hi⟩:=mm.1 b;have hi:(s.ef.modify v λx=>{x with args:=l})[i]? =some y:=hi;rw[List.getElem?_modify]at hi
 cases hx:s.ef[i]? with
 |none=>simp_all
 | some x=>
   rw[hx]at hi;have hi:some (if v=i then{x with args:=l} else x)=some y:=hi;have:=Option.some.inj hi;subst this;split
   ·exact a
   ·exact h x (AI hx)
theorem Yp{t:Dt} (h:AL t.s.ef):AL (fork ops t).s.ef:=by
 unfold fork;refine DA (xW ?_ (by simp[vl]));refine DA (s:=(end_ _ _ _ _ _ _).s) ?_;exact DA (s:=(end_ _ _ _ _ _ _).s) h
theorem Xo{t:Dt} (h:AL t.s.ef):AL (wC ops t).s.ef:=by
 unfold wC;refine DA (s:=(end_ _ _ _ _ _ _).s) ?_;show AL (ft ops _).2.ef;rw[zT];exact DA (s:=(end_ _ _ _ _ _ _).s) h
theorem Xz{t:Dt} (h:AL t.s.ef):AL (loop ops t).s.ef:=by
 unfold loop;refine DA (s:=(end_ _ _ _ _ _ _).s) ?_;refine Lu (s:=_) ?_ (by simp);have c:∀(a:Ds) (p:Nat) (l b:List Nat),l.length<=2->b.length<=2->AL a.ef->AL (if(num ops (setArgs a p l) 3).1=0 then setArgs (num ops (setArgs a p l) 3).2 p b else(num ops (setArgs a p l) 3).2).ef:=by grind[Lu,num,setArgs]
 grind[DA,end_,xW,Iq,vl,zT,fx]
theorem MJ:∀(l:List Int) (t:Dt),AL t.s.ef->AL (kH ops l t).s.ef
 |[],_,h=>h
 | k ::l,t,h=>by
   unfold kH;split
   ·refine MJ l _ ?_
    grind[sN,Yp,Xz,Xo]
   ·exact h
theorem Mn:∀(n i:Nat) (s:Ds),AL s.ef->AL (params n i s).ef
 |0,_,_,h=>h
 |n+1,i,s,h=>Mn n (i+1) _ (by grind[xW,vl])
theorem Yn(ops a:List Int) (n:Int):AL (E6 ops a n).ef:=by
 unfold E6;show AL (ft ops _).2.ef;rw[zT];refine MJ _ _ ?_;exact DA (xW (Mn _ _ _ (λ_ h=>nomatch h)) (by simp[vl]))
end
open Dm
def Qt(nx:Nat->List Nat)(Cz:Int)(b:Nat):Prop:=∃l,Pt nx b l/\∀x∈l,(x:Int)≠Cz
theorem Tu{nx:Nat->List Nat} {a b:Nat}:¬Qt nx (a:Int) b↔oV nx a b:=by
 constructor
 ·intro h l c;refine Classical.byContradiction λf=>h ⟨l,c,λx d e=>f ?_⟩
  grind
 ·rintro h ⟨l,c,d⟩;exact d a (h l c) rfl
structure Wo (n:Nat) (nx:Nat->List Nat) (Cz:Int) (c:Option (Nat×Nat)) (seen:List Bool) (todo:List Nat):Prop where
 len:seen.length=n
 zero:seen[0]? =some true
 sound:∀v:Nat,seen[v]? =some true->Qt nx Cz v
 work:∀v∈todo,seen[v]? =some true
 closed:∀v:Nat,seen[v]? =some true->v∈todo\/∀(k t:Nat),(nx v)[k]? =some t->(t:Int)≠Cz->seen[t]? =some true\/∃j,c=some (v,j)/\j<=k
 less:todo.length+seen.count false<=n
theorem count_set{l:List Bool}:∀{v:Nat},l[v]? =some false->(l.set v true).count false+1=l.count false:=by
 grind
section
variable{n:Nat}{nx:Nat->List Nat}{Cz:Int}{seen:List Bool}{todo:List Nat}
theorem Wo.start(c:0<n) (h0:Cz≠0):Wo n nx Cz none ((List.replicate n false).set 0 true) [0]:=by
 have hs:∀v:Nat,((List.replicate n false).set 0 true)[v]? =some true->v=0:=λv a=>by
  grind
 have b:((List.replicate n false).set 0 true)[0]? =some true:=by simp_all
 refine⟨by simp,b,λv a=>?_,λv a=>?_,by simp_all,?_⟩
 ·rw[hs v a];exact⟨[0],.nil,by grind⟩
 ·simp_all
 grind
theorem Wo.pop{b:Nat} (w:Wo n nx Cz none seen (b::todo)):Wo n nx Cz (some (b,0)) seen todo/\Qt nx Cz b:=by
 have c:=w.less;rw[M0]at c;refine⟨⟨w.len,w.zero,w.sound,λv a=>w.work v (by simp[a]),λv a=>?_,by omega⟩,w.sound b (w.work b (by simp))⟩;rcases w.closed v a with h|h
 ·grind
 grind
theorem Wo.skip{b j t:Nat} (w:Wo n nx Cz (some (b,j)) seen todo) (d:(nx b)[j]? =some t) (h:(t:Int)=Cz\/seen[t]? =some true):Wo n nx Cz (some (b,j+1)) seen todo:=by
 refine⟨w.len,w.zero,w.sound,w.work,λv a=>?_,w.less⟩;rcases w.closed v a with c|c
 ·simp_all
 grind
theorem Wo.push{b j t:Nat} (w:Wo n nx Cz (some (b,j)) seen todo) (e:(nx b)[j]? =some t) (f:Qt nx Cz b) (m:(t:Int)≠Cz) (d:seen[t]? =some false):Wo n nx Cz (some (b,j+1)) (seen.set t true) (todo++[t]):=by
 have g:=(jq.1 d).1;have c:(seen.set t true)[t]? =some true:=by simp_all
 have up:∀v:Nat,seen[v]? =some true->(seen.set t true)[v]? =some true:=by grind
 have down:∀v:Nat,(seen.set t true)[v]? =some true->v=t\/seen[v]? =some true:=by grind
 refine⟨by rw[KD];exact w.len,up 0 w.zero,λv a=>?_,λv a=>?_,λv a=>?_,?_⟩
 ·rcases down v a with rfl|h
  ·obtain⟨l,i,o⟩:=f;exact⟨v::l,.step i (AI e),by simp_all⟩
  ·exact w.sound v h
 ·rcases FM.1 a with h|h
  ·exact up v (w.work v h)
  simp_all
 ·rcases down v a with rfl|h
  ·simp_all
  ·rcases w.closed v h with k|k
   ·simp_all
   grind
 ·have:=count_set d;have:=w.less
  grind
theorem Wo.next{b:Nat} (w:Wo n nx Cz (some (b,(nx b).length)) seen todo):Wo n nx Cz none seen todo:=by
 refine⟨w.len,w.zero,w.sound,w.work,λv a=>(w.closed v a).imp id λh k t hk c=>?_,w.less⟩
 grind
theorem Wo.all(w:Wo n nx Cz none seen []):∀{b:Nat} {l:List Nat},Pt nx b l->(∀x∈l,(x:Int)≠Cz)->seen[b]? =some true
 |_,_,.nil,_=>w.zero
 | _,_,.step (p:=p) h e,hx=>by
   have c:=w.all h (by simp_all);obtain⟨k,hk⟩:=mm.1 e;rcases w.closed p c with a|a
   ·cases a
   grind
theorem Wo.iff(w:Wo n nx Cz none seen []) (b:Nat):seen[b]? =some true↔Qt nx Cz b:=
 ⟨w.sound b,λ⟨_,a,c⟩=>w.all a c⟩
theorem T8{b:Nat} (h:Cz=0):¬Qt nx Cz b:=by
 rintro⟨l,a,c⟩;have:0∈l:=by
  clear c
  induction a with
  |nil=>simp_all
  |step _ _ d=>simp_all
 grind
end
open Dm
def rh(n:Int):Int:=n % 18446744073709551616
def ry(n:Int):Int:=if n<9223372036854775808 then n else n-18446744073709551616
def Fb(b:Bool):Int:=if b=true then 1 else 0
def AK(op:Nat) (a b:Int):Int:=
 if op=3 then rh (a+b) else if op=4 then rh (a-b) else if op=5 then rh (a*b)
 else if op=6 then(if ry b=0 then 0 else if ry b = -1 then rh (-a) else rh ((ry a).tdiv (ry b)))
 else if op=7 then(if ry b=0\/ry b = -1 then 0 else rh ((ry a).tmod (ry b)))
 else if op=8 then rh (-a) else if op=9 then Fb (decide (a=0)) else if op=10 then Fb (decide (a=b)) else if op=11 then Fb (decide (a≠b))
 else if op=12 then Fb (decide (ry a<ry b)) else if op=13 then Fb (decide (ry a<=ry b)) else if op=14 then Fb (decide (a<b)) else 0
def Sv(h:List Int)(a:Int):Int:=h.getD a.toNat 0
def za8(h:List Int)(a v:Int):List Int:=if a=0 then h else h.set a.toNat v
def OF(x:Vl) (val:Nat->Int) (h:List Int):Int:=
 if x.op=2 then rh x.n else if x.op=15 then Sv h (val x.a) / 4294967296 else if x.op=16 then Sv h (val x.a) % 4294967296
 else if x.op=17 then Sv h (rh (val x.a+rh x.n)) else if x.op=18 then Sv h (rh (rh (val x.a+1)+val x.b))
 else if x.op=8\/x.op=9 then AK x.op (val x.a) 0 else AK x.op (val x.a) (val x.b)
structure Rs where
 val:List Int
 heap:List Int
 steps:Nat
 polls:Nat
def Rs.of(s:Rs)(v:Nat):Int:=s.val.getD v 0
structure Fw where
 func:Int
 pc:Int
 locals:List Int
 stack:List Int
inductive Ex where
 |Su
 |left (steps:Nat) (fr:List Fw) (heap:List Int)
 |stuck
def Ay(u:U)(s:Rs)(st:Nat):Ex:= .left s.steps (((u.eh[st]?).getD []).map λf=>⟨f.func,f.pc,f.locals.map s.of,f.stack.map s.of⟩) s.heap
def xO(u:U) (ju:Int) (n:Nat) (x:Vl) (s:Rs):Ex ⊕ Rs:=
 if x.op=19 then .inr {s with heap:=za8 s.heap (rh (s.of x.a+rh x.n)) (s.of x.b),steps:=s.steps+1}
 else if x.op=20 then .inr {s with heap:=za8 s.heap (rh (rh (s.of x.a+1)+s.of x.b)) (s.of (x.args.getD 0 0)),steps:=s.steps+1}
 else if x.op=22 then(if s.of x.a=0 then .inl (Ay u {s with steps:=s.steps+1} x.state) else .inr {s with steps:=s.steps+1})
 else if x.op=23 then(if 0<=ju/\(s.polls:Int)=ju then .inl (Ay u {s with steps:=s.steps+1} x.state) else .inr {s with steps:=s.steps+1,polls:=s.polls+1})
 else .inr {s with val:=s.val.set n (OF x s.of s.heap),steps:=s.steps+1}
def Ct(u:U) (ju:Int) (fuel:Nat):List Nat->Rs->Ex ⊕ Rs
 |[],s=> .inr s
 | n ::l,s=>if fuel<=s.steps then .inl .Su else match u.ef[n]? with
   |none=> .inl .stuck
   | some x=>match xO u ju n x s with
     | .inl e=> .inl e
     | .inr s=>Ct u ju fuel l s
def fY(u:U) (v:Nat):Bool:=match u.ef[v]? with
 |some x=>hY x.op
 |none=>false
def uh(u:U) (locals:List Int) (xI:Option Nat) (B:Bk) (val:Nat->Int) (v:Nat):Int:=match u.ef[v]? with
 | some x=>if x.op=1 then locals.getD x.n.toNat 0 else match xI with
   | some p=>match B.ez.findIdx? (·== p)with
     |some j=>val (x.args.getD j 0)
     |none=>0
   |none=>0
 |none=>0
def BM(val:List Int)(l:List (Nat×Int)):List Int:=l.foldl (λa p=>a.set p.1 p.2) val
def nK(u:U) (locals:List Int) (xI:Option Nat) (B:Bk) (s:Rs):Rs:=
 let hs:=B.ef.takeWhile (fY u)
 {s with val:=BM s.val (hs.map λv=>(v,uh u locals xI B s.of v)),steps:=s.steps+hs.length}
def sO(B:Bk)(s:Rs):Option Nat:=if B.fin=1 then B.next[0]? else if B.fin=2 then(if s.of B.cond=0 then B.next[1]? else B.next[0]?) else none
def runM(u:U) (locals:List Int) (ju:Int) (fuel:Nat):Nat->Option Nat->Nat->Rs->Ex
 |0,_,_,_=> .stuck
 | LH+1,xI,b,s=>match u.blocks[b]? with
   |none=> .stuck
   | some B=>match Ct u ju fuel (B.ef.dropWhile (fY u)) (nK u locals xI B s)with
     | .inl e=>e
     | .inr s=>if fuel<=s.steps then .Su else if B.fin=3 then Ay u {s with steps:=s.steps+1} B.state else match sO B s with
       |none=> .stuck
       |some t=>runM u locals ju fuel LH (some b) t {s with steps:=s.steps+1}
def vX(u:U)(heap:List Int):Rs:=⟨List.replicate u.ef.length 0,heap,0,0⟩
def Ex.As:Ex->Ex->Prop
 | .left n fr h,.left n' fr' h'=>n'<=n/\fr' = fr/\h' = h
 | .left _ _ _,_=>False
 |_,_=>True
section
variable{u:U}{as:Nat->Int}
structure Alike (u:U) (as:Nat->Int) (s s':Rs):Prop where
 len:s.val.length=u.ef.length
 B6:s'.val.length=(fq u as).length
 val:∀v∈fq u as,s'.of ((fq u as).idxOf v)=s.of v
 heap:s'.heap=s.heap
 steps:s'.steps<=s.steps
 polls:s'.polls=s.polls
structure Way (u:U) (as:Nat->Int) (locals:List Int) (ju:Int) (heap:List Int) (I:Nat->Nat->Rs->Prop):Prop where
 start:∀B:Bk,u.blocks[0]? =some B->I 0 (B.ef.takeWhile (fY u)).length (nK u locals none B (vX u heap))
 zW:∀(b t:Nat) (B T:Bk) (s:Rs),u.blocks[b]? =some B->u.blocks[t]? =some T->t∈B.next->I b B.ef.length s->s.val.length=u.ef.length->I t (T.ef.takeWhile (fY u)).length (nK u locals (some b) T {s with steps:=s.steps+1})
 one:∀(b k v:Nat) (x:Vl) (s a:Rs),At u v b k->u.ef[v]? =some x->fY u v=false->I b k s->s.val.length=u.ef.length->xO u ju v x s = .inr a->I b (k+1) a
 use:∀(b k w:Nat) (r:Nat) (s:Rs),I b k s->s.val.length=u.ef.length->zk u w b k->as w=(r:Int)->s.of r=s.of w
theorem A5{l:List Int} {i j:Nat} {x:Int} (hi:i<l.length):(l.set i x).getD j 0=if j=i then x else l.getD j 0:=by
 grind
theorem Gz(l:List (Nat×Int)):∀val:List Int,(BM val l).length=val.length:=by
 induction l with
 |nil=>exact λ_=>rfl
 | cons p l a=>
   grind[BM,KD]
theorem yR{f:Nat->Int} {j:Nat}:∀(l:List Nat) (val:List Int),(∀v∈l,v<val.length)->(BM val (l.map λv=>(v,f v))).getD j 0=if j∈l then f j else val.getD j 0
 |[],_,_=>by rfl
 | v::l,val,h=>by
   show(BM (val.set v (f v)) (l.map λv=>(v,f v))).getD j 0=_;rw[yR l _ (by simp_all),A5 (by simp_all)]
   grind
end
theorem su{u:U} {w b:Nat} {B:Bk} (d:u.blocks[b]? =some B) (h:pT u w b):zk u w b B.ef.length:=by
 obtain⟨c,j,a,f⟩:=h;refine⟨c,j,a,?_⟩;by_cases e:c=b
 ·subst e;obtain⟨g,i,k⟩:=a
  grind
 simp_all
section
variable{u:U}{P:Nat->Prop}{as:Nat->Int}[hP:Th P as] (g:Gd u P)(f:Fit u as){I:Nat->Nat->Rs->Prop}{locals:List Int}{ju:Int}{heap:List Int}(W:Way u as locals ju heap I)
include g f W
theorem Ob{b k w:Nat} {s s':Rs} (e:I b k s) (d:Alike u as s s') (hs:zk u w b k) (h0:0<=as w):s'.of (nm u as w)=s.of w:=by
 obtain⟨c,j,a,_⟩:=id hs;obtain⟨r,h,i,l⟩:=Tf g f (g.jA _ _ _ a) h0;rw[l,d.val r i];exact W.use b k w r s e d.len hs h
theorem Kk{b k st:Nat} {s s':Rs} {fs:List Fm} (h:I b k s) (d:Alike u as s s') (f:st∈Eu u as) (c:u.eh[st]? =some fs) (hs:∀w∈gY fs,zk u w b k/\0<=as w) :
  ∃fr,Ay u {s with steps:=s.steps+1} st = .left (s.steps+1) fr s.heap/\Ay (gR u as) {s' with steps:=s'.steps+1} ((Eu u as).idxOf st) = .left (s'.steps+1) fr s.heap:=by
 refine ⟨_,rfl,?_⟩;unfold Ay;rw[Rf f c,c,d.heap];simp only[Option.getD_some,List.map_map];congr 1;refine UL λa g=>?_;have e:∀l:List Nat,(∀w∈l,w∈gY fs)->(l.map (nm u as)).map s'.of=l.map s.of:=λl i=>by
  grind[List.map_map,UL,Ob]
 show Fw.mk a.func a.pc ((a.locals.map (nm u as)).map s'.of) ((a.stack.map (nm u as)).map s'.of)=_;rw[e a.locals (by grind[gY,Wn]),e a.stack (by grind[gY,List.mem_append_right])];rfl
variable (CD:∀(v b k:Nat)(x:Vl),At u v b k->u.ef[v]? =some x->stays as v=false->x.op≠19/\x.op≠20/\(x.op=22->∀s,I b k s->s.of x.a≠0)/\x.op≠23)
include CD
omit g f W CD in
theorem ED {x:Vl}:(two x.op=true->x.op≠21->x.a∈g0 x/\x.b∈g0 x)/\(nP x.op=true->x.op≠21->x.a∈g0 x):=by
 constructor
 ·intro h h1;unfold g0
  grind
 ·intro h h1;unfold g0
  grind
omit CD in
theorem Z8 {b k v:Nat} {x:Vl} {s s':Rs} (LU:At u v b k) (hx:u.ef[v]? =some x) (hh:fY u v=false) (Y6:stays as v=true) (hI:I b k s) (ha:Alike u as s s') :
  (∀n fr hp,xO u ju v x s = .inl (.left n fr hp)->∃n',n'<=n/\xO (gR u as) ju ((fq u as).idxOf v) (gX u as x) s' = .inl (.left n' fr hp))/\
  (∀s1,xO u ju v x s = .inr s1->∃s1',xO (gR u as) ju ((fq u as).idxOf v) (gX u as x) s' = .inr s1'/\Alike u as s1 s1'):=by
 have h21:x.op≠21:=by grind[fY,hY]
 have hvl:=(jq.1 hx).1;have hm:v∈fq u as:=(iC g).2 ⟨hvl,Y6⟩;have eu:∀w∈g0 x,s'.of (nm u as w)=s.of w:=λw hw=>Ob g f W hI ha (g.A6 v b k x LU hx h21 w hw) (f.use v x hx Y6 w hw);have ea:two x.op=true\/nP x.op=true->s'.of (gX u as x).a=s.of x.a:=λh=>by
  have:(gX u as x).a=nm u as x.a:=by
   show(if _ then nm u as x.a else x.a)=_;rcases h with h|h
   ·simp_all
   ·grind
  grind[ED]
 have eb:two x.op=true->s'.of (gX u as x).b=s.of x.b:=by simp_all[gX,nm,if_pos,ED]
 have UR:=g.op v x hx;have stp:=ha.steps;have pol:=ha.polls;have hp:=ha.heap;have goH:∀(q q':List Int),q' = q->Alike u as {s with heap:=q,steps:=s.steps+1} {s' with heap:=q',steps:=s'.steps+1}:=λq q' e=>⟨ha.len,ha.B6,ha.val,e,by simp only;omega,pol⟩
 have lv:leaves x.op=true->∃fs,u.eh[x.state]? =some fs/\(gX u as x).state=(Eu u as).idxOf x.state/\x.state∈Eu u as/\∀w∈gY fs,zk u w b k/\0<=as w:=λhl=>by
  have hs0:=g.leave v x hx hl;have hfs:=ig hs0;exact⟨_,hfs,if_pos hl,zbt g Y6 hx hl,λw hw=>⟨g.Dx v b k x _ LU hx hl hfs w hw,f.st v x _ hx Y6 hl hfs w hw⟩⟩
 unfold xO;rw[show(gX u as x).op=x.op from rfl,show(gX u as x).n=x.n from rfl];by_cases h19:x.op=19
 ·have e2:two x.op=true:=by rw[h19];rfl
  simp_all
 rw[if_neg h19,if_neg h19];by_cases h20:x.op=20
 ·have e2:two x.op=true:=by rw[h20];rfl
  rw [if_pos h20,if_pos h20];refine⟨λ_ _ _ h=>(nomatch h),λs1 h=>?_⟩;cases h;refine⟨_,rfl,goH _ _ ?_⟩;have hl:=g.putAt v x hx h20;have eC:s'.of ((gX u as x).args.getD 0 0)=s.of (x.args.getD 0 0):=by
   have:(gX u as x).args=x.args.map (nm u as):=if_pos (.inr h20);rw[this]
   match hq:x.args,hl with
   | [w],_=>
     simp_all[g0,if_neg,if_pos]
  simp_all
 rw[if_neg h20,if_neg h20];by_cases h22:x.op=22
 ·have e1:nP x.op=true:=by rw[h22];rfl
  rw[if_pos h22,if_pos h22,ea (.inr e1)];obtain⟨fs,l1,l2,l3,l4⟩:=lv (by rw[h22];rfl);by_cases hz:s.of x.a=0
  ·rw[if_pos hz,if_pos hz];refine⟨λn fr q h=>?_,λ_ h=>(nomatch h)⟩;obtain⟨fr',g1,g2⟩:=Kk g f W hI ha l3 l1 l4
   grind
  simp_all
 rw[if_neg h22,if_neg h22];by_cases h23:x.op=23
 ·rw [if_pos h23,if_pos h23,pol];obtain⟨fs,l1,l2,l3,l4⟩:=lv (by rw[h23];rfl);by_cases hz:0<=ju/\(s.polls:Int)=ju
  ·rw[if_pos hz,if_pos hz];refine⟨λn fr q h=>?_,λ_ h=>(nomatch h)⟩;obtain⟨fr',g1,g2⟩:=Kk g f W hI ha l3 l1 l4
   grind
  ·rw[if_neg hz,if_neg hz];refine⟨λ_ _ _ h=>(nomatch h),λs1 h=>?_⟩;cases h;exact⟨_,rfl,ha.len,ha.B6,ha.val,hp,by simp only;omega,by simp only⟩
 rw [if_neg h23,if_neg h23];refine⟨λ_ _ _ h=>(nomatch h),λs1 h=>?_⟩;cases h;have eV:OF (gX u as x) s'.of s'.heap=OF x s.of s.heap:=by
  have h1:x.op≠1:=by grind[fY,hY]
  unfold OF;rw[show(gX u as x).op=x.op from rfl,show(gX u as x).n=x.n from rfl,hp];have ht:x.op≠2->two x.op=true\/nP x.op=true:=λh2=>by
   unfold two nP;simp only[PR,ve,CH,IB];omega
  by_cases h2:x.op=2
  ·rw[if_pos h2,if_pos h2]
  rw [if_neg h2,if_neg h2,ea (ht h2)];have htw:x.op≠15->x.op≠16->x.op≠17->¬(x.op=8\/x.op=9)->two x.op=true:=λa1 a2 a3 a4=>by
   unfold two;simp only[PR,ve,CH,IB];omega
  by_cases h15:x.op=15
  ·rw[if_pos h15,if_pos h15]
  rw[if_neg h15,if_neg h15];by_cases h16:x.op=16
  ·rw[if_pos h16,if_pos h16]
  rw[if_neg h16,if_neg h16];by_cases h17:x.op=17
  ·rw[if_pos h17,if_pos h17]
  rw[if_neg h17,if_neg h17];by_cases h18:x.op=18
  ·simp_all
  rw[if_neg h18,if_neg h18];by_cases h89:x.op=8\/x.op=9
  ·rw[if_pos h89,if_pos h89]
  ·simp_all
 rw[eV];refine⟨_,rfl,by simp only[KD];exact ha.len,by simp only[KD];exact ha.B6,λw hw=>?_,hp,by simp only;omega,pol⟩;show(s'.val.set _ _).getD _ 0=(s.val.set _ _).getD _ 0;rw[A5 (by rw[ha.B6];exact wBk hm),A5 (by rw[ha.len];exact hvl)];by_cases e:w=v
 ·subst e;rw[if_pos rfl,if_pos rfl]
 ·rw[if_neg e,if_neg λh=>e (NR hw hm h)];exact ha.val w hw
theorem SI{fuel b:Nat} {B:Bk} (C:u.blocks[b]? =some B):∀(l:List Nat) (k:Nat) (s s':Rs),B.ef.drop k=l->k+l.length=B.ef.length->(∀v∈l,fY u v=false)->I b k s->Alike u as s s'->
  (∀n fr o,Ct u ju fuel l s = .inl (.left n fr o)->∃r,r<=n/\Ct (gR u as) ju fuel ((l.filter (stays as)).map (fq u as).idxOf) s' = .inl (.left r fr o))/\
  (∀c,Ct u ju fuel l s = .inr c->∃a,Ct (gR u as) ju fuel ((l.filter (stays as)).map (fq u as).idxOf) s' = .inr a/\Alike u as c a/\I b B.ef.length c)
 | [],k,s,s',hl,hk,_,hI,ha=>by
   refine⟨λn fr o h=>(nomatch h),λc h=>?_⟩;cases h;have hk:k=B.ef.length:=by simpa using hk
   subst hk
   exact⟨s',rfl,ha,hI⟩
 | v ::l,k,s,s',hl,hk,hh,hI,ha=>by
   have p:k<B.ef.length:=by rw[M0]at hk;omega
   rw[V9 p]at hl;obtain⟨F,t⟩:=List.cons.inj hl;have d:At u v b k:=⟨B,C,by rw[<-F];exact ig p⟩
   have q:=g.jA _ _ _ d;have j:=ig q;generalize u.ef[v]=x at j;have i:=hh v (by simp);have y:=λ(c a:Rs) (z:I b (k+1) c) (A:Alike u as c a)=>SI C (fuel:=fuel) l (k+1) c a t (by grind) (by simp_all) z A;show(∀n fr o,(if fuel<=s.steps then _ else _)=_->_)/\(∀c,(if fuel<=s.steps then _ else _)=_->_);by_cases hf:fuel<=s.steps
   ·simp_all
   rw[if_neg hf,j];simp only;have G:=ha.steps
   cases Y6:stays as v with
   | true=>
     have H:v∈fq u as:=by grind[iC]
     have e:((v::l).filter (stays as)).map (fq u as).idxOf=(fq u as).idxOf v::(l.filter (stays as)).map (fq u as).idxOf:=by rw[wBy,if_pos Y6];rfl
     rw[e];show(∀n fr o,_->∃r,r<=n/\(if fuel<=s'.steps then _ else _)=_)/\(∀c,_->∃a,(if fuel<=s'.steps then _ else _)=_/\_);rw[if_neg (by omega),K4 (B7 H) j];simp only;obtain⟨P,J⟩:=Z8 g f W d j i Y6 hI ha
     cases hq:xO u ju v x s with
     | inl e=>
       grind
     | inr c=>
       obtain⟨a,K,L⟩:=J _ hq;rw[K]
       exact y c a (W.one b k v x s c d j i hI ha.len hq) L
   | false=>
     have e:((v::l).filter (stays as)).map (fq u as).idxOf=(l.filter (stays as)).map (fq u as).idxOf:=by rw[wBy,if_neg (by simp_all)]
     rw[e];obtain⟨D,E,M,N⟩:=CD v b k x d j Y6;by_cases m:x.op=22
     ·have hq:xO u ju v x s = .inr {s with steps:=s.steps+1}:=by
        unfold xO;rw[if_neg D,if_neg E,if_pos m,if_neg (M m s hI)]
      rw[hq];exact y _ s' (W.one b k v x s _ d j i hI ha.len hq) ⟨ha.len,ha.B6,ha.val,ha.heap,by simp only;omega,ha.polls⟩
     have hq:xO u ju v x s = .inr {s with val:=s.val.set v (OF x s.of s.heap),steps:=s.steps+1}:=by
       unfold xO;rw[if_neg D,if_neg E,if_neg m,if_neg N]
     rw[hq];refine y _ s' (W.one b k v x s _ d j i hI ha.len hq) ⟨by simp only[KD];exact ha.len,ha.B6,λw O=>?_,ha.heap,by grind,ha.polls⟩;rw[ha.val w O];show _=(s.val.set _ _).getD _ 0;rw[A5 (by rw[ha.len];exact q),if_neg (by grind[iC])];rfl
omit f W CD in
theorem FI {b:Nat} {B:Bk} (hB:u.blocks[b]? =some B):∀v∈B.ef.dropWhile (fY u),fY u v=false:=by
 have e:=wA0 (p:=fY u) (l:=B.ef)
 cases hd:B.ef.dropWhile (fY u)with
 |nil=>simp_all
 | cons w r=>
   have hw:fY u w=false:=by
     have:=List.head?_dropWhile_not (fY u) B.ef;rw[hd]at this;simpa using this
   intro v hv
   cases hq:fY u v with
   |false=>rfl
   | true=>
     exfalso;rw[hd]at e;generalize B.ef.takeWhile (fY u)=hs at e;obtain⟨n,hn⟩:=mm.1 hv;have a1:At u v b (hs.length+n):=⟨B,hB,by rw[<-e,WK (by omega)];rw[wBb];exact hn⟩
     have a2:At u w b hs.length:=⟨B,hB,by rw[<-e,WK (by omega),Nat.sub_self];rfl⟩
     have hx:=ig (g.jA _ _ _ a1);have hy:=ig (g.jA _ _ _ a2)
     grind[fY,Oc]
omit g f W CD in
theorem HT {p:Nat->Bool} {x:Nat}:∀{l:List Nat},x∈l.takeWhile p->p x=true
 |[],h=>by cases h
 | a ::l,h=>by
   rw[List.takeWhile_cons]at h;split at h
   ·rename_i ha
    rcases Mc.1 h with rfl|h
    ·exact ha
    ·exact HT h
   ·cases h
omit g f W CD in
theorem E9 {p:Nat->Bool}:∀{a b:List Nat},(∀x∈a,p x=true)->(∀x∈b,p x=false)->(a++b).takeWhile p=a/\(a++b).dropWhile p=b
 | [],b,_,hb=>by
   cases b <;> simp_all
 | x::a,b,ha,hb=>by
   obtain⟨h1,h2⟩:=E9 (a:=a) (b:=b) (by simp_all) hb
   simp_all
omit f W CD in
theorem Ve {v:Nat} (hv:v∈fq u as):fY (gR u as) ((fq u as).idxOf v)=fY u v:=by
 have hx:=ig ((iC g).1 hv).1;unfold fY;rw[K4 (B7 hv) hx,hx];rfl
omit f W CD in
theorem Sl {b:Nat} {B:Bk} (hB:u.blocks[b]? =some B) :
  (kQ u as B).ef.takeWhile (fY (gR u as))=((B.ef.takeWhile (fY u)).filter (stays as)).map (fq u as).idxOf/\(kQ u as B).ef.dropWhile (fY (gR u as))=((B.ef.dropWhile (fY u)).filter (stays as)).map (fq u as).idxOf:=by
 have e:(kQ u as B).ef=((B.ef.takeWhile (fY u)).filter (stays as)).map (fq u as).idxOf++((B.ef.dropWhile (fY u)).filter (stays as)).map (fq u as).idxOf:=by
  rw[<-Qi,<-wB1,wA0];rfl
 have L0:∀v∈B.ef,stays as v=true->v∈fq u as:=λv hv hs=>by
  obtain⟨k,hk⟩:=mm.1 hv;exact(iC g).2 ⟨g.jA v b k ⟨B,hB,hk⟩,hs⟩
 rw[e];refine E9 (λx hx=>?_) λx hx=>?_
 ·obtain⟨v,hv,rfl⟩:=Jy.1 hx
  grind[Ve,Z7,HT]
 ·obtain⟨v,hv,rfl⟩:=Jy.1 hx
  grind[Ve,List.dropWhile_subset,FI]
omit f W CD in
theorem U6 {b:Nat} {B:Bk} {xI:Option Nat} {s s':Rs} (hB:u.blocks[b]? =some B) (ha:Alike u as s s')
  (zcY:∀(v k:Nat) (x:Vl) (j p a:Nat),At u v b k->stays as v=true->u.ef[v]? =some x->x.op=21->xI=some p->B.ez[j]? =some p->x.args[j]? =some a->s'.of (nm u as a)=s.of a) :
  Alike u as (nK u locals xI B s) (nK (gR u as) locals xI (kQ u as B) s'):=by
 obtain ⟨e1,_⟩:=Sl (as:=as) g hB;have Ua:∀v∈B.ef.takeWhile (fY u),∃k,At u v b k:=λv hv=>by
  obtain⟨k,hk⟩:=mm.1 (Z7 _ hv);exact⟨k,B,hB,hk⟩
 have hw:∀v∈B.ef.takeWhile (fY u),stays as v=true->uh (gR u as) locals xI (kQ u as B) s'.of ((fq u as).idxOf v)=uh u locals xI B s.of v:=by
  intro v hv hs;obtain⟨k,LU⟩:=Ua v hv;have hvl:=g.jA _ _ _ LU;have hx:=ig hvl;generalize u.ef[v]=x at hx;have hm:v∈fq u as:=by grind[iC]
  unfold uh;rw[K4 (B7 hm) hx,hx];show(if x.op=1 then _ else _)=(if x.op=1 then _ else _)
  by_cases h1:x.op=1
  ·rw[if_pos h1,if_pos h1];rfl
  rw [if_neg h1,if_neg h1];have h21:x.op=21:=by
   have:=HT hv;unfold fY at this;rw[hx]at this;unfold hY at this;rw[PR,IB,IB]at this;omega
  cases hf:xI with
  |none=>rfl
  | some p=>
    show (match B.ez.findIdx? (·== p)with
      |some j=>s'.of ((gX u as x).args.getD j 0)
      |none=>0)=(match B.ez.findIdx? (·== p)with
      |some j=>s.of (x.args.getD j 0)
      |none=>0)
    cases hj:B.ez.findIdx? (·== p)with
    |none=>rfl
    | some j=>
      simp only;obtain⟨hjl,hjp,_⟩:=List.findIdx?_eq_some_iff_getElem.1 hj;rw[IB]at hjp;have hpl:=(g.By v b k x B LU hx h21 hB).2;have hja:x.args[j]? =some x.args[j]:=by simp_all
      have e:(gX u as x).args=x.args.map (nm u as):=if_pos (.inl h21)
      grind
 unfold nK;simp only;rw[e1];have hv0:∀v∈B.ef.takeWhile (fY u),v<s.val.length:=λv hv=>by
  obtain⟨k,LU⟩:=Ua v hv;rw[ha.len];exact g.jA _ _ _ LU
 refine⟨by simp only[Gz];exact ha.len,by simp only[Gz];exact ha.B6,λv hv=>?_,ha.heap,?_,ha.polls⟩
 ·show (BM s'.val _).getD _ 0=(BM s.val _).getD _ 0;rw[yR _ _ hv0,yR _ _ λw hw=>by
   obtain⟨v',ZJ,rfl⟩:=Jy.1 hw;obtain⟨h1,h2⟩:=Ic.1 ZJ;obtain⟨k,LU⟩:=Ua v' h1;rw[ha.B6];exact wBk ((iC g).2 ⟨g.jA _ _ _ LU,h2⟩)]
  by_cases hm:v∈B.ef.takeWhile (fY u)
  ·rw[if_pos hm,if_pos (Jy.2 ⟨v,by grind[iC],rfl⟩)]
   grind[iC]
  ·rw [if_neg hm,if_neg λh=>by
    obtain⟨v',ZJ,e⟩:=Jy.1 h;obtain⟨h1,h2⟩:=Ic.1 ZJ;obtain⟨k,LU⟩:=Ua v' h1;obtain rfl:=NR ((iC g).2 ⟨g.jA _ _ _ LU,h2⟩) hv e
    simp_all]
   exact ha.val v hv
 ·simp only[BW];have:=U9 (stays as) (B.ef.takeWhile (fY u));have:=ha.steps;omega
theorem Wy{fuel:Nat}:∀(LH:Nat) (xI:Option Nat) (b:Nat) (B:Bk) (s s':Rs),u.blocks[b]? =some B->Alike u as s s'->
  ((xI=none/\b=0/\s=vX u heap)\/∃(p:Nat) (P:Bk) (o i:Rs),xI=some p/\u.blocks[p]? =some P/\b∈P.next/\I p P.ef.length o/\Alike u as o i/\s = {o with steps:=o.steps+1}/\s' = {i with steps:=i.steps+1})->
  (runM u locals ju fuel LH xI b s).As (runM (gR u as) locals ju fuel LH xI b s')
 |0,_,_,_,_,_,_,_,_=>trivial
 | LH+1,xI,b,B,s,s',hB,ha,he=>by
   have S:=(jq.1 hB).1;have E:Alike u as (nK u locals xI B s) (nK (gR u as) locals xI (kQ u as B) s'):=by
     refine U6 g hB ha λv k x j p a F hs O G A H hq=>?_;rcases he with⟨z,_⟩|⟨Q,P,o,i,z,h,C,q,J,rfl,rfl⟩
     ·simp_all
     ·rw[z]at A
      cases A;exact Ob g f W (s:=o) (s':=i) q J (su h (g.AX v b k x B F O G hB j a p hq H)) (f.use v x O hs a (by
        unfold g0
        grind))
   have K:I b (B.ef.takeWhile (fY u)).length (nK u locals xI B s):=by
     rcases he with⟨rfl,rfl,rfl⟩|⟨Q,P,o,i,rfl,h,C,q,J,rfl,rfl⟩
     ·exact W.start B hB
     ·exact W.zW Q b P B o h hB C q J.len
   obtain ⟨_,T⟩:=Sl (as:=as) g hB;have hlen:(B.ef.takeWhile (fY u)).length+(B.ef.dropWhile (fY u)).length=B.ef.length:=by
     rw[<-I9,wA0]
   have L:B.ef.drop (B.ef.takeWhile (fY u)).length=B.ef.dropWhile (fY u):=by
     have e:=wA0 (p:=fY u) (l:=B.ef);generalize B.ef.takeWhile (fY u)=a at e⊢;generalize B.ef.dropWhile (fY u)=d at e⊢;rw[<-e];exact List.drop_left' rfl
   obtain⟨r1,r2⟩:=SI g f W CD (fuel:=fuel) hB _ _ _ _ L hlen (FI g hB) K E;unfold runM;rw[hB,QX hB];simp only;rw[T]
   cases hq:Ct u ju fuel (B.ef.dropWhile (fY u)) (nK u locals xI B s)with
   | inl e=>
     simp only
     cases e with
     |Su=>exact trivial
     |stuck=>exact trivial
     | left n fr H=>
       obtain⟨Z,z,h⟩:=r1 n fr H hq;rw[h]
       exact⟨z,rfl,rfl⟩
   | inr D=>
     obtain⟨r,z,h,C⟩:=r2 D hq;rw[z];simp only;have U:=h.steps;by_cases A:fuel<=D.steps
     ·rw[if_pos A];exact trivial
     rw[if_neg A,if_neg (show ¬fuel<=r.steps by omega)];show Ex.As (if B.fin=3 then _ else _) (if B.fin=3 then _ else _);by_cases c:B.fin=3
     ·rw[if_pos c,if_pos c]
      have M:B.state<u.eh.length:=by
        rcases g.fin b B hB with⟨q,_⟩|⟨q,_⟩|⟨_,_,q⟩
        ·omega
        ·omega
        ·exact q
      have y:=ig M;obtain⟨fr,V,X⟩:=Kk g f W C h (ZR hB c) y λw R=>⟨su hB (g.De b B _ hB c y w R),f.out b B _ hB c y w R⟩
      rw[V,show(kQ u as B).state=(Eu u as).idxOf B.state from if_pos c,X];exact⟨by omega,rfl,rfl⟩
     rw[if_neg c,if_neg c];have Y:sO (kQ u as B) r=sO B D:=by
       unfold sO;show(if B.fin=1 then B.next[0]? else if B.fin=2 then(if r.of (if B.fin=2 then nm u as B.cond else B.cond)=0 then B.next[1]? else B.next[0]?) else none)=_;by_cases m:B.fin=2
       ·rw[if_pos m,if_pos m,if_pos m,Ob g f W C h (su hB (g.A2 b B hB m)) (f.cond b B hB m)]
       ·simp_all
     rw[Y]
     cases hn:sO B D with
     |none=>exact trivial
     | some t=>
       simp only;have ht:t∈B.next:=by
         unfold sO at hn
         repeat' split at hn
         all_goals grind
       have N:=g.nx b t (by grind[next]);exact Wy LH (some b) t _ _ _ (ig N) ⟨h.len,h.B6,h.val,h.heap,by simp_all,h.polls⟩ (by grind)
theorem X4{fuel:Nat} (LH:Nat):(runM u locals ju fuel LH none 0 (vX u heap)).As (runM (gR u as) locals ju fuel LH none 0 (vX (gR u as) heap)):=by
 have a:(gR u as).ef.length=(fq u as).length:=by
  show((fq u as).map _).length=_;rw[BW]
 refine Wy g f W CD LH none 0 _ _ _ (ig (show 0<u.blocks.length from g.Jz)) ⟨by simp[vX],by grind[vX],λv _=>?_,rfl,iZ _,rfl⟩ (by simp_all);have e:∀n m,(List.replicate n (0:Int)).getD m 0=0:=by grind
 exact(e _ _).trans (e _ _).symm
end
