/- Parts. -/
import Derived.Test.YtjgjgngfjopaaaaDoorM13
namespace Go.Proofs.YtjgjgngfjopaaaaDoor.Un
open Dm
def kP(l:List Nat):List Nat:=l.foldl (λa s=>if s∈a then a else a++[s]) []
theorem xX(l:List Nat) (s:Nat):kP (l++[s])=if s∈kP l then kP l else kP l++[s]:=by
 unfold kP;rw[List.foldl_append];rfl
theorem MN{P:List Nat->Prop} (h0:P []) (hs:∀l s,P l->P (l++[s])) (l:List Nat):P l:=by
 have:∀r:List Nat,P r.reverse:=λr=>by
  induction r with
  |nil=>exact h0
  |cons a r b=>rw[List.reverse_cons];exact hs _ _ b
 rw[<-List.reverse_reverse l];exact this _
theorem oQ(l:List Nat):∀x,x∈kP l↔x∈l:=by
 induction l using MN with
 |h0=>exact λ_=>Iff.rfl
 | hs l s a=>
   intro x;rw[xX];split
   ·rename_i h
    rw[a,BK,Jd];exact⟨.inl,λb=>b.elim id λe=>by rw[e];exact(a s).1 h⟩
   ·rw[BK,BK,a]
theorem CX(l:List Nat):(kP l).Nodup:=by
 induction l using MN with
 |h0=>exact List.nodup_nil
 | hs l s c=>
   rw[xX];split
   ·exact c
   ·rename_i h
    rw[WO];exact⟨c,List.nodup_cons.2 ⟨by simp,List.nodup_nil⟩,λa f b d=>by
      rw[Jd]at d;subst d;exact λe=>h (e▸f)⟩
theorem qE{l:List Nat} {x:Nat} (h:x∈l):l[l.idxOf x]? =some x:=by
 rw[gP (wBX h),List.getElem_idxOf]
theorem xA{l:List Nat} (e:l.Nodup) {i j x:Nat} (hi:l[i]? =some x) (f:l[j]? =some x):i=j:=by
 obtain⟨a,b⟩:=iR.1 hi;obtain⟨c,d⟩:=iR.1 f;have hp:=Zp.1 e;rcases wBp i j with h|h|h
 ·exact absurd (b.trans d.symm) (hp i j a c h)
 ·exact h
 ·exact absurd (d.trans b.symm) (hp j i c a h)
theorem Rx{l:List Nat}(a:l.Nodup){i x:Nat}(h:l[i]? =some x):l.idxOf x=i:=xA a (qE (A7 h)) h
theorem Ug{l:List Nat} {x y:Nat} (b:x∈l) (c:y∈l) (h:l.idxOf x=l.idxOf y):x=y:=by
 have a:=qE b;rw[h,qE c]at a;exact(Option.some.inj a).symm
theorem O1{p:Nat->Bool}:∀{l:List Nat} {k v:Nat},l[k]? =some v->p v=true->(l.filter p)[((l.take k).filter p).length]? =some v
 |[],k,v,h,_=>by simp at h
 | a::l,0,v,h,hp=>by
   obtain rfl:a=v:=by simpa using h
   simp[hp]
 | a::l,k+1,v,h,hp=>by
   have b:=O1 (l:=l) (k:=k) (by simpa using h) hp;rw[List.take_succ_cons,WC,WC];split
   ·rw[Dz,QB];exact b
   ·exact b
theorem Zm{p:Nat->Bool} {l:List Nat} {j k w:Nat} (h:l[j]? =some w) (hp:p w=true) (a:j<k):((l.take j).filter p).length<((l.take k).filter p).length:=by
 obtain ⟨b,rfl⟩:=iR.1 h;have e:l.take k=l.take j++l[j]::((l.take k).drop (j+1)):=by
  conv=>lhs;rw[<-X5 j (l.take k)]
  rw[List.take_take,wBx (by omega)];congr 1;rw[XU (by rw[GX];omega),List.getElem_take]
 rw[e,ZG,WC,if_pos hp,y6,Dz];omega
section
variable (u:U)(as:Nat->Int)
def stays(v:Nat):Bool:=as v == (v:Int)
def fI:List Nat:=u.blocks.flatMap λB=>B.ef.filter (stays as)
def xj:Nat->Nat->Nat
 |0,v=>v
 |k+1,v=>if 0<=as v/\as v≠(v:Int) then xj k (as v).toNat else v
def nm(v:Nat):Nat:=if xj as (u.ef.length+1) v∈fI u as then(fI u as).idxOf (xj as (u.ef.length+1) v) else 0
def CO:List Nat:=(fI u as).filterMap (λn=>match u.ef[n]? with
  |some x=>if leaves x.op=true then some x.state else none
  |none=>none)++u.blocks.filterMap λB=>if B.fin=3 then some B.state else none
def CG:List Nat:=kP (CO u as)
def gW(x:Vl):Vl where
 op:=x.op
 a:=if 0<(if two x.op=true then 2 else if pg x.op=true then 1 else 0) then nm u as x.a else x.a
 b:=if two x.op=true then nm u as x.b else x.b
 n:=x.n
 args:=if x.op=21\/x.op=20 then x.args.map (nm u as) else x.args
 state:=if leaves x.op=true then(CG u as).idxOf x.state else x.state
def mF(B:Bk):Bk where
 ef:=(B.ef.filter (stays as)).map (fI u as).idxOf
 fin:=B.fin
 cond:=if B.fin=2 then nm u as B.cond else B.cond
 next:=B.next
 fg:=B.fg
 state:=if B.fin=3 then(CG u as).idxOf B.state else B.state
def Qb(f:Fm):Fm:=⟨f.func,f.pc,f.locals.map (nm u as),f.stack.map (nm u as)⟩
def gZ:U where
 func:=u.func
 pc:=u.pc
 ef:=(fI u as).map λn=>gW u as (u.ef.getD n ⟨0,0,0,0,[],0⟩)
 blocks:=u.blocks.map (mF u as)
 eh:=(CG u as).map λs=>(u.eh.getD s []).map (Qb u as)
end
def YB(u:U):Prop:=∀(v:Nat) (b:Nat) (k:Nat) (a:Nat) (k':Nat),At u v b k->At u v a k'->b=a/\k=k'
theorem Hw{u:U} (c:YB u) {b:Nat} {B:Bk} (a:u.blocks[b]? =some B):B.ef.Nodup:=by
 refine Zp.2 λi j hi d f e=>?_;have g:At u B.ef[i] b i:=⟨B,a,gP hi⟩
 have h:At u B.ef[i] b j:=⟨B,a,by rw[e];exact gP d⟩
 have:=(c _ _ _ _ _ g h).2;omega
theorem zs{u:U} {as:Nat->Int} (g:YB u):(fI u as).Nodup:=by
 unfold fI;have d:∀(l:List Bk) (i:Nat),(∀k B,l[k]? =some B->u.blocks[i+k]? =some B)->(l.flatMap λB=>B.ef.filter (stays as)).Nodup:=by
  intro l
  induction l with
  |nil=>exact λ_ _=>List.nodup_nil
  | cons B l m=>
    intro i h;rw[wBu,WO];have j:u.blocks[i]? =some B:=h 0 B rfl;refine⟨(Hw g j).filter _,m (i+1) λk C b=>by rw[show i+1+k=i+(k+1) by omega];exact h (k+1) C (by simpa using b),λa n c hc e=>?_⟩;subst e;obtain⟨C,o,f⟩:=Ni.1 hc;obtain⟨k,b⟩:=mK.1 o;obtain⟨p,q⟩:=mK.1 (MS.1 n).1;obtain⟨r,s⟩:=mK.1 (MS.1 f).1;have:=(g a i p (i+(k+1)) r ⟨B,j,q⟩ ⟨C,h (k+1) C (by simpa using b),s⟩).1;omega
 exact d u.blocks 0 λk B b=>by rw[yC];exact b
theorem Pt.short{nx:Nat->List Nat} {x:Nat}:∀{b l},Pt nx b l->x∈l->x≠b->∃a,Pt nx x a/\a.length<l.length
 | _,_,.nil,h,hn=>by
   obtain rfl:x=0:=by simpa using h
   exact absurd rfl hn
 | _,_,.step (p:=p) (b:=b) (l:=l) h e,c,hn=>by
   rcases Jq.1 c with rfl|c
   ·exact absurd rfl hn
   ·by_cases hp:x=p
    ·subst hp
     exact⟨l,h,by simp⟩
    ·obtain⟨a,d,f⟩:=Pt.short h c hp
     exact⟨a,d,by simp;omega⟩
theorem ve.zbg{nx:Nat->List Nat} {a b:Nat} (d:ve nx a b) (e:ve nx b a) {l:List Nat} (f:Pt nx b l):a=b:=by
 have g:∀n (l:List Nat),l.length<=n->(Pt nx b l->a≠b->False)/\(Pt nx a l->a≠b->False):=by
  intro n
  induction n with
  | zero=>
    intro l f;have:l=[]:=UZ (by omega);subst this
    exact⟨λh _=>(nomatch h),λh _=>(nomatch h)⟩
  | succ n k=>
    intro l f;refine⟨λh c=>?_,λh c=>?_⟩
    ·obtain⟨i,j,m⟩:=h.short (d l h) c
     exact(k i (by omega)).2 j c
    ·obtain⟨i,j,m⟩:=h.short (e l h) c.symm
     exact(k i (by omega)).1 j c
 by_cases h:a=b
 ·exact h
 ·exact((g l.length l (jj _)).1 f h).elim
theorem ve.trans{nx:Nat->List Nat} {a b c:Nat} (g:ve nx a b) (j:ve nx b c):ve nx a c:=λl i=>by
 have f:∀{y l},Pt nx y l->b∈l->a∈l:=by
  intro y l hp
  induction hp with
  | nil=>
    intro d;obtain rfl:b=0:=by simpa using d
    exact g _ .nil
  | step h e k=>
    intro d;rcases Jq.1 d with rfl|d
    ·exact g _ (.step h e)
    ·exact Ud _ (k d)
 exact f i (j l i)
structure Fit (u:U) (as:Nat->Int):Prop where
 root:∀v,v<u.ef.length->0<=as v->∃w:Nat,as v=(w:Int)/\w<u.ef.length/\as w=(w:Int)
 up:∀(v w b k:Nat),as v=(w:Int)->At u v b k->∃c j,At u w c j/\(c=b/\j<=k\/c≠b/\ve (next u) c b)
 Su:∀(v w:Nat),as v=(w:Int)->w7 u v->w7 u w
 use:∀(v:Nat) (x:Vl),u.ef[v]? =some x->stays as v=true->∀w∈je x,0<=as w
 st:∀(v:Nat) (x:Vl) (fs:List Fm),u.ef[v]? =some x->stays as v=true->leaves x.op=true->u.eh[x.state]? =some fs->∀w∈gJ fs,0<=as w
 cond:∀(b:Nat) (B:Bk),u.blocks[b]? =some B->B.fin=2->0<=as B.cond
 out:∀(b:Nat) (B:Bk) (fs:List Fm),u.blocks[b]? =some B->B.fin=3->u.eh[B.state]? =some fs->∀w∈gJ fs,0<=as w
section
variable{u:U}(g:Good u){as:Nat->Int}(f:Fit u as)
include g
theorem iM{v:Nat}:v∈fI u as↔v<u.ef.length/\stays as v=true:=by
 unfold fI;rw[Ni];constructor
 ·rintro⟨B,f,hv⟩;obtain⟨a,c⟩:=MS.1 hv;obtain⟨b,d⟩:=mK.1 f;obtain⟨k,e⟩:=mK.1 a;exact⟨g.mb v b k ⟨B,d,e⟩,c⟩
 ·rintro⟨a,c⟩;obtain⟨b,k,B,d,e⟩:=g.HW v a;exact⟨B,A7 d,MS.2 ⟨A7 e,c⟩⟩
theorem BR{b:Nat}{B:Bk}(a:u.blocks[b]? =some B):B.ef.Nodup:=Hw g.OM a
theorem yh:(fI u as).Nodup:=zs g.OM
omit g in
include f in
theorem ZK {v:Nat} (hv:v<u.ef.length) (h0:0<=as v):∃w:Nat,xj as (u.ef.length+1) v=w/\as v=(w:Int)/\w<u.ef.length/\as w=(w:Int):=by
 obtain⟨w,h1,h2,h3⟩:=f.root v hv h0;refine⟨w,?_,h1,h2,h3⟩;unfold xj;split
 ·rename_i h;rw[h1];show xj as u.ef.length w=w
  cases u.ef.length with
  |zero=>rfl
  | succ n=>
    unfold xj;rw[if_neg λhh=>hh.2 h3]
 ·rename_i h;have:as v=(v:Int):=by
   by_cases e:as v=(v:Int)
   ·exact e
   ·exact absurd ⟨h0,e⟩ h
  omega
include f
theorem PW{v:Nat} (hv:v<u.ef.length) (h0:0<=as v):∃w:Nat,as v=(w:Int)/\w∈fI u as/\nm u as v=(fI u as).idxOf w:=by
 obtain⟨w,b,c,d,e⟩:=ZK f hv h0;have a:w∈fI u as:=(iM g).2 ⟨d,by unfold stays;rw[z8];exact e⟩;exact⟨w,c,a,by unfold nm;rw[b,if_pos a]⟩
omit f g
theorem Dj{i n:Nat} {x:Vl} (hi:(fI u as)[i]? =some n) (a:u.ef[n]? =some x):(gZ u as).ef[i]? =some (gW u as x):=by
 show((fI u as).map _)[i]? =_;rw[zG,hi];show some (gW u as (u.ef.getD n _))=_;rw[BO,a];rfl
theorem EN(g:Good u) {i:Nat} {y:Vl} (h:(gZ u as).ef[i]? =some y):∃n x,(fI u as)[i]? =some n/\u.ef[n]? =some x/\y=gW u as x/\stays as n=true:=by
 have h:((fI u as).map _)[i]? =some y:=h;rw[zG]at h
 cases hn:(fI u as)[i]? with
 |none=>rw[hn]at h;cases h
 | some n=>
   obtain ⟨c,d⟩:=(iM g).1 (A7 hn);have a:=gP c;have:=Dj hn a;refine⟨n,_,rfl,a,?_,d⟩;rw[hn]at h;have b:(gZ u as).ef[i]? =some y:=by
     show((fI u as).map _)[i]? =_;rw[zG,hn];exact h
   rw[this]at b;exact(Option.some.inj b).symm
theorem Jo{b:Nat} {B:Bk} (a:u.blocks[b]? =some B):(gZ u as).blocks[b]? =some (mF u as B):=by
 show(u.blocks.map _)[b]? =_;rw[zG,a];rfl
theorem EV{b:Nat} {a:Bk} (h:(gZ u as).blocks[b]? =some a):∃B,u.blocks[b]? =some B/\a=mF u as B:=by
 have h:(u.blocks.map _)[b]? =some a:=h;rw[zG]at h
 cases hb:u.blocks[b]? with
 |none=>rw[hb]at h;cases h
 |some B=>rw[hb]at h;exact⟨B,rfl,(Option.some.inj h).symm⟩
theorem W5(b:Nat):next (gZ u as) b=next u b:=by
 unfold next
 cases hb:u.blocks[b]? with
 | none=>
   have:(gZ u as).blocks[b]? =none:=by
     show(u.blocks.map _)[b]? =_;rw[zG,hb];rfl
   rw[this]
 |some B=>rw[Jo hb];rfl
theorem Og:next (gZ u as)=next u:=funext W5
theorem Kw{h:Bk->Bk} (a:∀B,(h B).next=B.next) (b:Nat):∀(l:List Bk) (i:Nat),kW (l.map h) i b=kW l i b
 |[],_=>rfl
 | B::l,i=>by
   show((h B).next.filter (·= b)).map (λ_=>i)++kW (l.map h) (i+1) b=_;rw[a,Kw a b l];rfl
theorem OE(b:Nat):ahead (gZ u as) b=ahead u b:=Kw (h:=mF u as) (λ_=>rfl) b u.blocks 0
def pk(u:U) (as:Nat->Int) (b k:Nat):Nat:=match u.blocks[b]? with
 |some B=>((B.ef.take k).filter (stays as)).length
 |none=>0
theorem zbe{v b k:Nat} (h:At u v b k) (hs:stays as v=true):At (gZ u as) ((fI u as).idxOf v) b (pk u as b k):=by
 obtain⟨B,a,hv⟩:=h;refine⟨_,Jo a,?_⟩;show((B.ef.filter (stays as)).map _)[pk u as b k]? =_;unfold pk;rw[a,zG,O1 hv hs];rfl
theorem zax{v b j k:Nat} (h:At u v b j) (hs:stays as v=true) (a:j<k):pk u as b j<pk u as b k:=by
 obtain⟨B,c,hv⟩:=h;unfold pk;rw[c];exact Zm hv hs a
theorem IX(g:Good u) {i b k:Nat} (h:At (gZ u as) i b k):∃v j,At u v b j/\stays as v=true/\i=(fI u as).idxOf v/\k=pk u as b j/\(fI u as)[i]? =some v:=by
 obtain⟨m,c,hi⟩:=h;obtain⟨B,d,rfl⟩:=EV c;have hi:((B.ef.filter (stays as)).map _)[k]? =some i:=hi;rw[zG]at hi
 cases hv:(B.ef.filter (stays as))[k]? with
 |none=>rw[hv]at hi;cases hi
 | some v=>
   rw[hv]at hi;obtain rfl:(fI u as).idxOf v=i:=Option.some.inj hi;obtain⟨l,e⟩:=MS.1 (A7 hv);obtain⟨j,f⟩:=mK.1 l;have a:At u v b j:=⟨B,d,f⟩
   refine⟨v,j,a,e,rfl,?_,qE ((iM g).2 ⟨g.mb _ _ _ a,e⟩)⟩;unfold pk;rw[d];exact xA ((BR g d).filter _) hv (O1 f e)
theorem Sl(x:Vl):je (gW u as x)=(je x).map (nm u as):=by
 unfold je;show(if x.op=21 then(gW u as x).args else if x.op=20 then(gW u as x).a::(gW u as x).b::(gW u as x).args.take 1 else if two x.op=true then[(gW u as x).a,(gW u as x).b] else if pg x.op=true then[(gW u as x).a] else[])=_;unfold gW;simp only;by_cases e:x.op=21
 ·simp[e]
 ·rw [if_neg e,if_neg e];by_cases c:x.op=20
  ·rw[if_pos c,if_pos c];simp[c,two,List.map_take]
  ·rw [if_neg c,if_neg c];by_cases d:two x.op=true
   ·simp[d]
   ·rw[if_neg d,if_neg d];by_cases f:pg x.op=true
    ·simp[d,f]
    ·simp[d,f]
include g f
theorem Li{w:Nat} (h:w7 u w) (h0:0<=as w):w7 (gZ u as) (nm u as w):=by
 obtain⟨x,a,_⟩:=id h;obtain⟨r,b,c,d⟩:=PW g f (iR.1 a).1 h0;obtain⟨y,e,i⟩:=f.Su w r b h;exact⟨gW u as y,by rw[d];exact Dj (qE c) e,i⟩
theorem Wd{w b k:Nat} (h:JH u w b k) (s:b<u.blocks.length) (h0:0<=as w):JH (gZ u as) (nm u as w) b (pk u as b k):=by
 obtain⟨c,j,m,hc⟩:=h;obtain⟨r,t,v,x⟩:=PW g f (g.mb _ _ _ m) h0;obtain⟨c',y,d,n⟩:=f.up w r c j t m;have hs:=((iM g).1 v).2;refine⟨c',pk u as c' y,by rw[x];exact zbe d hs,?_⟩;rw[Og];rcases hc with⟨rfl,A⟩|⟨o,p⟩
 ·rcases n with⟨rfl,q⟩|⟨i,a⟩
  ·exact .inl ⟨rfl,zax d hs (by omega)⟩
  ·exact .inr ⟨i,a⟩
 ·rcases n with⟨rfl,q⟩|⟨i,a⟩
  ·exact .inr ⟨o,p⟩
  ·refine .inr ⟨λe=>?_,a.trans p⟩;subst e;obtain⟨l,z⟩:=g.reach c' s;exact o (p.zbg a z)
theorem JK{w b:Nat} (h:xI u w b) (h0:0<=as w):xI (gZ u as) (nm u as w) b:=by
 obtain⟨c,j,a,k⟩:=h;obtain⟨r,l,m,n⟩:=PW g f (g.mb _ _ _ a) h0;obtain⟨c',o,d,e⟩:=f.up w r c j l a;refine⟨c',pk u as c' o,by rw[n];exact zbe d ((iM g).1 m).2,?_⟩;rw[Og];rcases e with⟨rfl,_⟩|⟨_,i⟩
 ·exact k
 ·exact i.trans k
omit f in
theorem Gm {s:Nat} (h:s∈CO u as):s<u.eh.length/\((∃(v b k:Nat) (x:Vl),At u v b k/\stays as v=true/\u.ef[v]? =some x/\leaves x.op=true/\x.state=s)\/∃(b:Nat) (B:Bk),u.blocks[b]? =some B/\B.fin=3/\B.state=s):=by
 unfold CO at h;rcases BK.1 h with h|h
 ·obtain⟨n,hn,hs⟩:=wB7.1 h;obtain⟨h1,h2⟩:=(iM g).1 hn;have hx:=gP h1;rw[hx]at hs;simp only at hs;split at hs
  ·rename_i hl;cases hs;obtain⟨b,k,Ri⟩:=g.HW n h1;exact⟨g.leave n _ hx hl,.inl ⟨n,b,k,_,Ri,h2,hx,hl,rfl⟩⟩
  ·cases hs
 ·obtain ⟨B,hB,hs⟩:=wB7.1 h;obtain⟨b,hb⟩:=mK.1 hB;split at hs
  ·rename_i h3;cases hs;refine⟨?_,.inr ⟨b,B,hb,h3,rfl⟩⟩;rcases g.fin b B hb with⟨h4,_⟩|⟨h4,_⟩|⟨_,_,h4⟩
   ·omega
   ·omega
   ·exact h4
  ·cases hs
omit g f in
theorem My {s:Nat} {fs:List Fm} (h:s∈CG u as) (hs:u.eh[s]? =some fs):(gZ u as).eh[(CG u as).idxOf s]? =some (fs.map (Qb u as)):=by
 show((CG u as).map _)[_]? =_;rw[zG,qE h];show some ((u.eh.getD s []).map _)=_;rw[BO,hs];rfl
omit f in
theorem zbp {i:Nat} {gs:List Fm} (h:(gZ u as).eh[i]? =some gs):∃s fs,s∈CG u as/\u.eh[s]? =some fs/\gs=fs.map (Qb u as):=by
 have h:((CG u as).map _)[i]? =some gs:=h;rw[zG]at h
 cases hn:(CG u as)[i]? with
 |none=>rw[hn]at h;cases h
 | some s=>
   rw[hn]at h;have hm:s∈CG u as:=A7 hn;have hl:=(Gm g ((oQ _ _).1 hm)).1;refine⟨s,u.eh[s],hm,gP hl,?_⟩;have h:(u.eh.getD s []).map (Qb u as)=gs:=Option.some.inj h;rw[BO,gP hl]at h;exact h.symm
omit g f in
theorem Hr (fs:List Fm):gJ (fs.map (Qb u as))=(gJ fs).map (nm u as):=by
 unfold gJ;rw[List.flatMap_map,List.map_flatMap];congr 1;funext x;rw[Ji];rfl
omit f in
theorem YQ {v:Nat} {x:Vl} (hs:stays as v=true) (hx:u.ef[v]? =some x) (hl:leaves x.op=true):x.state∈CG u as:=by
 refine(oQ _ _).2 (Rh _ (wB7.2 ⟨v,(iM g).2 ⟨(iR.1 hx).1,hs⟩,?_⟩));rw[hx];simp only;rw[if_pos hl]
omit g f in
theorem Yv {b:Nat} {B:Bk} (hB:u.blocks[b]? =some B) (h3:B.fin=3):B.state∈CG u as:=
 (oQ _ _).2 (wBW _ (wB7.2 ⟨B,A7 hB,by rw[if_pos h3]⟩))
omit f in
theorem O3 {v b k:Nat} {x:Vl} (h:At u v b k) (hx:u.ef[v]? =some x) (hh:iH x.op=true):∀{w j:Nat} {y:Vl},At u w b j->u.ef[w]? =some y->j<=k->iH y.op=true:=by
 have key:∀(n v k:Nat) (x:Vl),At u v b k->u.ef[v]? =some x->iH x.op=true->∀{w j:Nat} {y:Vl},At u w b j->u.ef[w]? =some y->j+n=k->iH y.op=true:=by
  intro n
  induction n with
  | zero=>
    intro v k x h hx hh w j y hw hy e;obtain rfl:j=k:=by omega
    obtain⟨B,h1,h2⟩:=h;obtain⟨B',h3,h4⟩:=hw;rw[h1]at h3;cases h3;rw[h2]at h4;cases h4;rw[hx]at hy;cases hy
    exact hh
  | succ n ih=>
    intro v k x h hx hh w j y hw hy e;obtain⟨k,rfl⟩:∃i,k=i+1:=⟨k-1,by omega⟩
    obtain⟨B,h1,h2⟩:=h;have hk:k<B.ef.length:=by have:=(iR.1 h2).1;omega
    have h3:At u (B.ef[k]) b k:=⟨B,h1,gP hk⟩
    have hz:=gP (g.mb _ _ _ h3);exact ih _ k _ h3 hz (g.NL _ _ _ _ _ _ ⟨B,h1,h2⟩ h3 hx hz hh) hw hy (by omega)
 exact λ{w j y} hw hy hj=>key (k-j) v k x h hx hh hw hy (by omega)
theorem N9:Good (gZ u as):=by
 have hL:(fI u as).length<=u.ef.length:=jK _ _ (yh g) λv hv=>((iM g).1 hv).1;have hS:(CG u as).length<=u.eh.length:=jK _ _ (CX _) λs hs=>(Gm g ((oQ _ _).1 hs)).1;have hlen:(gZ u as).ef.length=(fI u as).length:=by
  show((fI u as).map _).length=_;rw[CD]
 have J:(gZ u as).blocks.length=u.blocks.length:=by
  show(u.blocks.map _).length=_;rw[CD]
 have lT:(gZ u as).eh.length=(CG u as).length:=by
  show((CG u as).map _).length=_;rw[CD]
 have X:∀s fs,s∈CG u as->u.eh[s]? =some fs->∀w∈gJ fs,0<=as w:=by
  intro s fs hs r w d;rcases(Gm g ((oQ _ _).1 hs)).2 with⟨v,b,k,x,_,a,G,C,rfl⟩|⟨b,B,c,a,rfl⟩
  ·exact f.st v x fs G a C r w d
  ·exact f.out b B fs c a r w d
 have m:∀{i b k:Nat} {y:Vl},At (gZ u as) i b k->(gZ u as).ef[i]? =some y->∃v j x,At u v b j/\stays as v=true/\i=(fI u as).idxOf v/\k=pk u as b j/\u.ef[v]? =some x/\y=gW u as x:=by
  intro i b k y N o;obtain⟨v,j,c,a,G,C,l⟩:=IX g N;obtain⟨n,x,L,R,g3,_⟩:=EN g o;rw[l]at L;cases L;exact⟨v,j,x,c,a,G,C,R,g3⟩
 have S:∀{v b k:Nat},At u v b k->b<u.blocks.length:=λ⟨B,h,_⟩=>(iR.1 h).1
 refine
  { nv:=by rw[hlen];have:=g.nv;omega
    OC:=by rw[J];exact g.OC
    nb:=by rw[J];exact g.nb
    ns:=by rw[lT];have:=g.ns;omega
    st:=?_,HW:=?_,OM:=?_,mb:=?_,NL:=?_,par:=?_,Ko:=?_,op:=?_,use:=?_,leave:=?_,putAt:=?_,param:=?_,fin:=?_,nx:=?_,fg:=?_,JZ:=?_,Mr:=?_,reach:=?_,NU:=?_,NX:=?_,Oa:=?_,NC:=?_,Nt:=?_}
 ·intro s gs hs;obtain⟨s0,fs,c,a,rfl⟩:=zbp g hs;obtain⟨G,C,l⟩:=g.st s0 fs a;refine⟨by simpa using G,by simpa using C,λf' Y=>?_⟩;obtain⟨M,T,rfl⟩:=K4.1 Y;obtain⟨Z,h7,h8,h9⟩:=l M T;have U:∀w,w∈M.locals\/w∈M.stack->0<=as w:=λw d=>X s0 fs c a w (by
   unfold gJ;rw[Ni];exact⟨M,T,BK.2 d⟩)
  refine⟨by show(M.locals.map _).length<=40;simpa using Z,by show(M.stack.map _).length<=60;simpa using h7,λv hv=>?_,λv hv=>?_⟩
  ·obtain⟨w,d,rfl⟩:=K4.1 (show v∈M.locals.map (nm u as) from hv);exact Li g f (h8 w d) (U w (.inl d))
  ·obtain⟨w,d,rfl⟩:=K4.1 (show v∈M.stack.map (nm u as) from hv);exact Li g f (h9 w d) (U w (.inr d))
 ·intro i hi;rw[hlen]at hi;have hn:=gP hi;obtain⟨c,a⟩:=(iM g).1 (A7 hn);obtain⟨b,k,N⟩:=g.HW _ c;refine⟨b,pk u as b k,?_⟩;have:=zbe N a
  rwa [Rx (yh g) hn]at this
 ·intro i b k b' k' h h';obtain⟨v,j,c,a,G,C,l⟩:=IX g h;obtain⟨v',j',L,R,g3,g4,V⟩:=IX g h';rw[l]at V;cases V;obtain⟨rfl,rfl⟩:=g.OM _ _ _ _ _ c L;exact⟨rfl,C.trans g4.symm⟩
 ·intro i b k h;obtain⟨v,j,_,_,_,_,l⟩:=IX g h;rw[hlen];exact(iR.1 l).1
 ·intro i i' b k y y' h h' o aa hh;obtain⟨v,j,x,c,a,_,C,l,rfl⟩:=m h o;obtain⟨v',j',x',L,R,_,g4,V,rfl⟩:=m h' aa;show iH x'.op=true;refine O3 g c l hh L V ?_;by_cases hj:j'<=j
  ·exact hj
  ·have:=zax c a (show j<j' by omega);omega
 ·intro i b k y h o F;obtain⟨v,j,x,c,_,_,_,l,rfl⟩:=m h o;exact g.par v b j x c l F
 ·intro i b k y Q h o F e;obtain⟨v,j,x,c,_,_,_,l,rfl⟩:=m h o;obtain⟨B,A,rfl⟩:=EV e;obtain⟨Z,h7⟩:=g.Ko v b j x B c l F A;refine⟨Z,?_⟩;have D:x.op=21:=F;show(if x.op=21\/x.op=20 then x.args.map (nm u as) else x.args).length=B.fg.length;rw[if_pos (.inl D),CD,h7]
 ·intro i y o;obtain⟨n,x,_,a,rfl,_⟩:=EN g o;exact g.op n x a
 ·intro i y o w d;obtain⟨n,x,_,a,rfl,C⟩:=EN g o;rw[Sl]at d;obtain⟨w0,q,rfl⟩:=K4.1 d;exact Li g f (g.use n x a w0 q) (f.use n x a C w0 q)
 ·intro i y o hl;obtain⟨n,x,_,a,rfl,C⟩:=EN g o;have E:leaves x.op=true:=hl;rw[lT];show(if leaves x.op=true then(CG u as).idxOf x.state else x.state)<_;rw[if_pos E];exact wBX (YQ g C a E)
 ·intro i y o F;obtain⟨n,x,_,a,rfl,C⟩:=EN g o;have D:x.op=20:=F;show(if x.op=21\/x.op=20 then x.args.map (nm u as) else x.args).length=1;rw[if_pos (.inr D),CD];exact g.putAt n x a D
 ·intro i y o F;obtain⟨n,x,c,a,rfl,C⟩:=EN g o;obtain⟨L,R,g3⟩:=g.param n x a F;refine⟨L,R,λw z hz ab ac=>?_⟩;obtain⟨n',x',ae,H,rfl,_⟩:=EN g hz;obtain rfl:=g3 n' x' H ab ac;exact xA (yh g) ae c
 ·intro b Q e;obtain⟨B,A,rfl⟩:=EV e;rcases g.fin b B A with⟨c,a⟩|⟨c,a,G⟩|⟨c,a,G⟩
  ·exact .inl ⟨c,a⟩
  ·refine .inr (.inl ⟨c,a,?_⟩);show w7 _ (if B.fin=2 then nm u as B.cond else B.cond);rw[if_pos c];exact Li g f G (f.cond b B A c)
  ·refine .inr (.inr ⟨c,a,?_⟩);rw[lT];show(if B.fin=3 then(CG u as).idxOf B.state else B.state)<_;rw[if_pos c];exact wBX (Yv A c)
 ·intro b t W;rw[W5]at W;rw[J];exact g.nx b t W
 ·intro b Q e;obtain⟨B,A,rfl⟩:=EV e;rw[OE];exact g.fg b B A
 ·rw[OE];exact g.JZ
 ·intro b Q e a t W;obtain⟨B,A,rfl⟩:=EV e;rw[OE];exact g.Mr b B A a t W
 ·intro b hb;rw[J]at hb;rw[Og];exact g.reach b hb
 ·intro i b k y h o F w d;obtain⟨v,j,x,c,a,_,rfl,l,rfl⟩:=m h o;rw[Sl]at d;obtain⟨w0,q,rfl⟩:=K4.1 d;exact Wd g f (g.NU v b j x c l F w0 q) (S c) (f.use v x l a w0 q)
 ·intro i b k y Q h o F e j w p d hp;obtain⟨v,j0,x,c,a,_,rfl,l,rfl⟩:=m h o;obtain⟨B,A,rfl⟩:=EV e;have D:x.op=21:=F;have d:(if x.op=21\/x.op=20 then x.args.map (nm u as) else x.args)[j]? =some w:=d;rw[if_pos (.inl D),zG]at d
  cases hq:x.args[j]? with
  |none=>rw[hq]at d;cases d
  | some w0=>
    rw[hq]at d;obtain rfl:nm u as w0=w:=Option.some.inj d;exact JK g f (g.NX v b j0 x B c l D A j w0 p hq hp) (f.use v x l a w0 (by
      unfold je;rw[if_pos D];exact A7 hq))
 ·intro i b k y gs h o hl I w d;obtain⟨v,j,x,c,a,_,rfl,l,rfl⟩:=m h o;have E:leaves x.op=true:=hl;have O:(gW u as x).state=(CG u as).idxOf x.state:=by
   show(if leaves x.op=true then _ else _)=_;rw[if_pos E]
  have P:=g.leave v x l E;have r:=gP P;rw[O,My (YQ g a l E) r]at I;cases I;rw[Hr]at d;obtain⟨w0,q,rfl⟩:=K4.1 d;exact Wd g f (g.Oa v b j x _ c l E r w0 q) (S c) (f.st v x _ l a E r w0 q)
 ·intro b Q e a;obtain⟨B,A,rfl⟩:=EV e;have H:B.fin=2:=a;show xI _ (if B.fin=2 then nm u as B.cond else B.cond) b;rw[if_pos H];exact JK g f (g.NC b B A H) (f.cond b B A H)
 ·intro b Q gs e G I w d;obtain⟨B,A,rfl⟩:=EV e;have K:B.fin=3:=G;have O:(mF u as B).state=(CG u as).idxOf B.state:=by
   show(if B.fin=3 then _ else _)=_;rw[if_pos K]
  have P:B.state<u.eh.length:=by
   rcases g.fin b B A with⟨C,_⟩|⟨C,_⟩|⟨_,_,C⟩
   ·omega
   ·omega
   ·exact C
  have r:=gP P;rw[O,My (Yv A K) r]at I;cases I;rw[Hr]at d;obtain⟨w0,q,rfl⟩:=K4.1 d;exact JK g f (g.Nt b B _ A K r w0 q) (f.out b B _ A K r w0 q)
end
open Dm
section
variable (u:U)(kp:Nat->Bool)
def wK(b:Nat):Nat:=if kp b=true then((List.range b).filter kp).length else 0
def xe(i:Nat)(ps:List Nat):List Nat:=(List.range ps.length).filter λj=>kp (ps.getD j 0)&&(next u (ps.getD j 0)).contains i
def yc(i:Nat)(ps:List Nat):List Nat:=(xe u kp i ps).map λj=>wK kp (ps.getD j 0)
def vG(i:Nat)(ps args:List Nat):List Nat:=(xe u kp i ps).map λj=>args.getD j 0
def Pg:Bk:=⟨[],0,0,[],[],0⟩
def mm:List Nat:=(List.range u.blocks.length).filter kp
def Hu(b:Nat):Bk:={u.blocks.getD b Pg with next:=(u.blocks.getD b Pg).next.map (wK kp),fg:=yc u kp b (u.blocks.getD b Pg).fg}
structure Cut (u':U):Prop where
 func:u'.func=u.func
 pc:u'.pc=u.pc
 eh:u'.eh=u.eh
 blocks:u'.blocks=(mm u kp).map (Hu u kp)
 len:u'.ef.length=u.ef.length
 Ko:∀(v b k:Nat) (x:Vl) (B:Bk),At u v b k->u.ef[v]? =some x->x.op=21->kp b=true->u.blocks[b]? =some B->u'.ef[v]? =some {x with args:=vG u kp b B.fg x.args}
 same:∀(v:Nat) (x:Vl),u.ef[v]? =some x->¬(x.op=21/\∃b k,At u v b k/\kp b=true)->u'.ef[v]? =some x
structure N3 (az a:List Int):Prop where
 len:a.length=az.length
 gone:∀(v b k:Nat),At u v b k->kp b=false->v<az.length->a[v]? =some (-1)
 same:∀(v:Nat),(¬∃b k,At u v b k/\kp b=false)->a[v]? =az[v]?
end
section
variable{u u':U}{kp:Nat->Bool}
theorem filter_all{p:Nat->Bool}{l:List Nat}(h:∀x∈l,p x=true):l.filter p=l:=List.filter_eq_self.2 h
theorem QV(a:∀b,b<u.blocks.length->kp b=true) {b:Nat} (c:b<u.blocks.length):wK kp b=b:=by
 unfold wK;rw[if_pos (a b c),filter_all λx d=>a x (by have:=Sq.1 d;omega),Xe]
theorem Od(g:Good u) (e:∀b,b<u.blocks.length->kp b=true) {b:Nat} {B:Bk} (f:u.blocks[b]? =some B):xe u kp b B.fg=List.range B.fg.length:=by
 unfold xe;refine filter_all λj a=>?_;have a:=Sq.1 a;rw[BO,gP a];have hp:B.fg[j]∈ahead u b:=by rw[<-g.fg b B f];exact zq a
 obtain⟨q,i,c,h,d⟩:=uk.1 hp;rw[yC]at d;rw[Option.getD_some,d,e q (iR.1 c).1,Z1,List.contains_iff_mem];unfold next
 rw[c];exact h
theorem PJ(l:List Nat) (d:Nat):(List.range l.length).map (λj=>l.getD j d)=l:=by
 refine wBv λj=>?_;by_cases hj:j<l.length
 ·rw[zG,wBq hj,gP hj,Option.map_some,BO,gP hj];rfl
 ·rw[KT (by simp;omega),KT (by omega)]
theorem Sh(g:Good u) (d:∀b,b<u.blocks.length->kp b=true) {b:Nat} {B:Bk} (a:u.blocks[b]? =some B):Hu u kp b=B:=by
 have e:u.blocks.getD b Pg=B:=by rw[BO,a];rfl
 unfold Hu;rw[e];have f:B.next.map (wK kp)=B.next:=by
  have:∀t∈B.next,wK kp t=t:=λt i=>QV d (g.nx b t (by unfold next;rw[a];exact i));rw[Wr this,List.map_id''];exact λ_=>rfl
 have k:yc u kp b B.fg=B.fg:=by
  unfold yc;rw[Od g d a];have:∀j∈List.range B.fg.length,wK kp (B.fg.getD j 0)=B.fg.getD j 0:=λj c=>by
   have c:=Sq.1 c;rw[BO,gP c,Option.getD_some];have hp:B.fg[j]∈ahead u b:=by rw[<-g.fg b B a];exact zq c
   obtain⟨q,l,f,_,h⟩:=uk.1 hp;rw[yC]at h;rw[h];exact QV d (iR.1 f).1
  rw[Wr this];exact PJ _ _
 rw[f,k]
theorem Cut.eq(g:Good u) (i:∀b,b<u.blocks.length->kp b=true) (c:Cut u kp u'):u' = u:=by
 have m:u'.blocks=u.blocks:=by
  rw[c.blocks,mm,filter_all λx d=>i x (Sq.1 d)];refine wBv λb=>?_;by_cases h:b<u.blocks.length
  ·rw[zG,wBq h,Option.map_some,Sh g i (gP h),gP h]
  ·rw[KT (by simp;omega),KT (by omega)]
 have hv:u'.ef=u.ef:=by
  refine wBv λv=>?_;by_cases h:v<u.ef.length
  ·have d:=gP h;generalize u.ef[v]=x at*;rw[d];by_cases hp:x.op=21/\∃b k,At u v b k/\kp b=true
   ·obtain ⟨f,b,k,a,j⟩:=hp;obtain⟨B,l,n⟩:=id a;rw[c.Ko v b k x B a d f j l];have e:vG u kp b B.fg x.args=x.args:=by
     unfold vG;rw[Od g i l,<-(g.Ko v b k x B a d f l).2];exact PJ _ _
    rw[e]
   ·exact c.same v x d hp
  ·rw[KT (by rw[c.len];omega),KT (by omega)]
 have f:=c.func;have o:=c.pc;have p:=c.eh;cases u;cases u';simp only at*;subst m hv f o p;rfl
theorem N3.eq{az a:List Int} (c:N3 u kp az a) (d:∀b,b<u.blocks.length->kp b=true):a=az:=by
 refine wBv λv=>c.same v ?_;rintro⟨b,k,⟨B,e,_⟩,h⟩;rw[d b (iR.1 e).1]at h;cases h
end
open Dm
theorem Lw{l L:List Nat} (h:l <+: L) {v:Nat} (hv:v∈l):L.idxOf v=l.idxOf v:=by
 obtain⟨r,rfl⟩:=h;rw[wCD,if_pos hv]
theorem Hc(l r:List Nat):kP l <+: kP (l++r):=by
 induction r using MN with
 |h0=>rw[Eo];exact List.prefix_refl _
 | hs r s a=>
   rw[<-Ek,xX];split
   ·exact a
   ·exact a.trans (List.prefix_append _ _)
section
variable{u:U}{as:Nat->Int}
def jN(u:U) (as:Nat->Int) (i j:Nat):List Nat:=(u.blocks.take i).flatMap (λB=>B.ef.filter (stays as))++(match u.blocks[i]? with
 |some B=>(B.ef.take j).filter (stays as)
 |none=>[])
theorem Kc:jN u as 0 0=[]:=by
 unfold jN;rw[YZ,List.flatMap_nil,OO];split <;> rfl
theorem QI{i:Nat} {B:Bk} (a:u.blocks[i]? =some B):jN u as i B.ef.length=jN u as (i+1) 0:=by
 unfold jN;rw[a];obtain⟨b,rfl⟩:=iR.1 a;dsimp only;rw[M9 b,Zz,List.flatMap_singleton,Jh];have:(match u.blocks[i+1]? with|some B=>(B.ef.take 0).filter (stays as)|none=>[])=[]:=by split <;> rfl
 rw[this,Eo]
theorem RV:jN u as u.blocks.length 0=fI u as:=by
 unfold jN fI;rw[Jh,KT (jj _),Eo]
theorem Kd{i j v:Nat} {B:Bk} (a:u.blocks[i]? =some B) (hv:B.ef[j]? =some v):jN u as i (j+1)=if stays as v=true then jN u as i j++[v] else jN u as i j:=by
 unfold jN;rw[a];obtain⟨b,rfl⟩:=iR.1 hv;dsimp only;rw[M9 b,ZG,WC];split
 ·rw[List.filter_nil,<-Ek]
 ·rw[List.filter_nil,Eo]
theorem GQ{i j:Nat} {B:Bk} (a:u.blocks[i]? =some B):jN u as i j <+: fI u as:=by
 unfold jN fI;rw[a];obtain⟨b,rfl⟩:=iR.1 a;have e:u.blocks=u.blocks.take i++u.blocks[i]::u.blocks.drop (i+1):=by
  conv=>lhs;rw[<-X5 i u.blocks]
  rw[XU b]
 have c:(u.blocks[i].ef.take j).filter (stays as)++(u.blocks[i].ef.drop j).filter (stays as)=u.blocks[i].ef.filter (stays as):=by
  rw[<-ZG,X5]
 conv=>rhs;rw[e]
 rw[Zz,wBu,<-c,Ek,<-Ek];exact List.prefix_append _ _
theorem za1(e:YB u) {i j v:Nat} {B:Bk} (b:u.blocks[i]? =some B) (hv:B.ef[j]? =some v) (hs:stays as v=true):(fI u as).idxOf v=(jN u as i j).length/\v ∉ jN u as i j:=by
 have hp:=GQ (as:=as) (j:=j+1) b;rw[Kd b hv,if_pos hs]at hp;have c:=zs (as:=as) e;obtain⟨r,d⟩:=hp;rw[<-d,Ek]at c;have a:v ∉ jN u as i j:=λf=>by
  have:=(WO.1 c).2.2 v f v (by simp);exact this rfl
 refine⟨?_,a⟩;rw[<-d,Ek,wCD,if_neg a];simp
theorem FN(a:∀v b k,At u v b k->v<u.ef.length) {v:Nat} (hv:v∈fI u as):v<u.ef.length:=by
 unfold fI at hv;obtain⟨B,c,hv⟩:=Ni.1 hv;obtain⟨b,d⟩:=mK.1 c;obtain⟨k,e⟩:=mK.1 (MS.1 hv).1;exact a v b k ⟨B,d,e⟩
theorem Rc{n:Nat} (h:∀v,v<n->as v<(n:Int)):∀(k v:Nat),v<n->xj as k v<n
 |0,_,hv=>hv
 | k + 1,v,hv=>by
   unfold xj;split
   ·rename_i a
    exact Rc h k _ (by have:=h v hv;omega)
   ·exact hv
def rU(u:U) (l:List Nat):List Nat:=l.filterMap λn=>match u.ef[n]? with
 |some x=>if leaves x.op=true then some x.state else none
 |none=>none
def Ba(l:List Bk):List Nat:=l.filterMap λB=>if B.fin=3 then some B.state else none
theorem Nr:CO u as=rU u (fI u as)++Ba u.blocks:=rfl
end
open Dm
def Xi(u:U) (v:Nat):Prop:=(∃x,u.ef[v]? =some x/\(x.op=19\/x.op=20\/x.op=22\/x.op=23))\/ (∃(i:Nat) (x:Vl) (fs:List Fm),u.ef[i]? =some x/\leaves x.op=true/\u.eh[x.state]? =some fs/\v∈gJ fs)\/ (∃(b:Nat) (B:Bk),u.blocks[b]? =some B/\B.fin=2/\v=B.cond)\/ (∃(b:Nat) (B:Bk) (fs:List Fm),u.blocks[b]? =some B/\B.fin=3/\u.eh[B.state]? =some fs/\v∈gJ fs)
inductive Live (u:U):Nat->Prop
 |root {v:Nat} (h:Xi u v):Live u v
 |use {v w:Nat} {x:Vl} (h:Live u v) (a:u.ef[v]? =some x) (b:w∈je x):Live u w
theorem SU{u:U} (g:Good u) {v:Nat} (h:Xi u v):v<u.ef.length:=by
 have gl:∀{w},w7 u w->w<u.ef.length:=λ⟨_,h,_⟩=>(iR.1 h).1;have fl:∀{s fs},u.eh[s]? =some fs->∀w∈gJ fs,w<u.ef.length:=λ{s fs} hs w a=>by
  unfold gJ at a;obtain⟨f,e,a⟩:=Ni.1 a;obtain⟨_,_,i,d⟩:=(g.st s fs hs).2.2 f e;exact(BK.1 a).elim (λh=>gl (i w h)) λh=>gl (d w h)
 rcases h with⟨x,h,_⟩|⟨_,_,_,_,_,h,hv⟩|⟨b,B,h,d,rfl⟩|⟨_,_,_,_,_,h,hv⟩
 ·exact(iR.1 h).1
 ·exact fl h v hv
 ·rcases g.fin b B h with⟨c,_⟩|⟨_,_,c⟩|⟨c,_⟩
  ·omega
  ·exact gl c
  ·omega
 ·exact fl h v hv
theorem Lf{u:U} (g:Good u) {v:Nat} (h:Live u v):v<u.ef.length:=by
 cases h with
 |root h=>exact SU g h
 |use h a b=>obtain⟨_,h,_⟩:=g.use _ _ a _ b;exact(iR.1 h).1
def Ju(u:U)(as:Nat->Int):Prop:=∀v,v<u.ef.length->(as v=(v:Int)/\Live u v)\/(as v = -1/\¬Live u v)
theorem Ju.fit{u:U} (g:Good u) {as:Nat->Int} (d:Ju u as) (f:∀v,u.ef.length<=v->as v = -1):Fit u as:=by
 have live:∀{w},Live u w->0<=as w:=λ{w} h=>by
  rcases d w (Lf g h)with⟨e,_⟩|⟨_,m⟩
  ·omega
  ·exact absurd h m
 have self:∀{v w:Nat},as v=(w:Int)->v=w/\v<u.ef.length:=λ{v w} e=>by
  by_cases hv:v<u.ef.length
  ·rcases d v hv with⟨n,_⟩|⟨n,_⟩
   ·exact⟨by omega,hv⟩
   ·omega
  ·have:=f v (by omega);omega
 have st:∀{v x},u.ef[v]? =some x->stays as v=true->Live u v:=λ{v x} c hs=>by
  have hv:=(iR.1 c).1;unfold stays at hs;rw[z8]at hs;rcases d v hv with⟨_,h⟩|⟨e,_⟩
  ·exact h
  ·omega
 refine ⟨λv hv h0=>?_,λv w b k e j=>?_,λv w e h=>?_,λv x c hs w i=>live (.use (st c hs) c i),λv x fs c _ o a w i=>live (.root (.inr (.inl ⟨v,x,fs,c,o,a,i⟩))),
  λb B l p=>live (.root (.inr (.inr (.inl ⟨b,B,l,p,rfl⟩)))),λb B fs l q a w i=>live (.root (.inr (.inr (.inr ⟨b,B,fs,l,q,a,i⟩))))⟩
 ·rcases d v hv with⟨e,_⟩|⟨e,_⟩
  ·exact⟨v,e,hv,e⟩
  ·omega
 ·obtain⟨rfl,_⟩:=self e;exact⟨b,k,j,.inl ⟨rfl,jj _⟩⟩
 ·obtain⟨rfl,_⟩:=self e;exact h
theorem Ut{u:U} (g:Good u) {as:Nat->Int} (d:Ju u as) (q:∀v,u.ef.length<=v->as v = -1) :
  (∀i,i<(gZ u as).ef.length->Live (gZ u as) i)/\∀s,s<(gZ u as).eh.length->(∃(i:Nat) (x:Vl),(gZ u as).ef[i]? =some x/\leaves x.op=true/\x.state=s)\/∃(b:Nat) (B:Bk),(gZ u as).blocks[b]? =some B/\B.fin=3/\B.state=s:=by
 have f:=d.fit g q;have j:∀{v:Nat},Live u v->stays as v=true:=λ{v} h=>by
  rcases d v (Lf g h)with⟨e,_⟩|⟨_,m⟩
  ·unfold stays;rw[e,beq_self_eq_true]
  ·exact absurd h m
 have n:∀{v:Nat},Live u v->nm u as v=(fI u as).idxOf v:=λ{v} h=>by
  have hv:=Lf g h;obtain⟨w,y,_,l⟩:=PW g f hv (by
   have:=j h;unfold stays at this;rw[z8]at this;omega)
  have:=j h;unfold stays at this;rw[z8]at this;obtain rfl:v=w:=by omega
  exact l
 have JC:∀{v:Nat},Live u v->v∈fI u as:=λh=>(iM g).2 ⟨Lf g h,j h⟩;have oA:∀{fs:List Fm} {w:Nat},w∈gJ fs->nm u as w∈gJ (fs.map (Qb u as)):=λ{fs w} h=>by
  rw[Hr];exact wCJ h
 have r:∀v,Live u v->Live (gZ u as) (nm u as v):=by
  intro v h
  induction h with
  | @root v h=>
    have t:Live u v:= .root h;refine .root ?_;rcases h with⟨x,o,D⟩|⟨i,x,fs,o,a,p,hv⟩|⟨b,B,z,c,rfl⟩|⟨b,B,fs,z,l,p,hv⟩
    ·refine .inl ⟨gW u as x,?_,D⟩
     rw[n t];exact Dj (qE (JC t)) o
    ·have hi:Live u i:= .root (.inl ⟨x,o,by
       unfold leaves at a;rw[KM,z8,z8]at a;omega⟩)
     refine .inr (.inl ⟨_,gW u as x,_,Dj (qE (JC hi)) o,a,?_,oA hv⟩);show(gZ u as).eh[if leaves x.op=true then _ else _]? =_;rw[if_pos a];exact My (YQ g (j hi) o a) p
    ·refine .inr (.inr (.inl ⟨b,_,Jo z,c,?_⟩))
     show nm u as B.cond=if B.fin=2 then nm u as B.cond else B.cond
     rw[if_pos c]
    ·refine .inr (.inr (.inr ⟨b,_,_,Jo z,l,?_,oA hv⟩))
     show(gZ u as).eh[if B.fin=3 then _ else _]? =_;rw[if_pos l]
     exact My (Yv z l) p
  | @use v w x h o E F=>
    refine .use F (x:=gW u as x) ?_ ?_
    ·rw[n h]
     exact Dj (qE (JC h)) o
    ·rw[Sl]
     exact wCJ E
 have hlen:(gZ u as).ef.length=(fI u as).length:=by
  show((fI u as).map _).length=_;rw[CD]
 have lT:(gZ u as).eh.length=(CG u as).length:=by
  show((CG u as).map _).length=_;rw[CD]
 constructor
 ·intro i hi;rw[hlen]at hi;have m:=gP hi;obtain⟨y,c⟩:=(iM g).1 (A7 m);have t:Live u (fI u as)[i]:=by
   unfold stays at c;rw[z8]at c;rcases d _ y with⟨_,h⟩|⟨e,_⟩
   ·exact h
   ·omega
  have:=r _ t;rw[n t,Rx (yh g) m]at this;exact this
 ·intro s hs;rw[lT]at hs;have m:=gP hs;have hi:=Rx (CX (CO u as)) m;rcases(Gm g ((oQ _ _).1 (A7 m))).2 with⟨v,b,k,x,_,c,l,C,A⟩|⟨b,B,y,c,A⟩
  ·refine .inl ⟨_,gW u as x,Dj (qE ((iM g).2 ⟨(iR.1 l).1,c⟩)) l,C,?_⟩;show(if leaves x.op=true then(CG u as).idxOf x.state else x.state)=s;rw[if_pos C,A];exact hi
  ·refine .inr ⟨b,_,Jo y,c,?_⟩;show(if B.fin=3 then(CG u as).idxOf B.state else B.state)=s;rw[if_pos c,A];exact hi
def AL(l:List Vl):Prop:=∀x∈l,x.args.length<=2
section
variable{ops:List Int}
theorem Nw:∀(i:Nat) (s:Ds) (l:List Nat),(some_ ops i s l).2.ef=s.ef
 |0,_,_=>rfl
 | i+1,s,l=>by
   unfold some_;rw[Nw i];rfl
theorem Be(s:Ds):(fJ ops s).2.ef=s.ef:=by
 show(some_ ops (num ops s 4).1 (num ops s 4).2 []).2.ef=s.ef;rw[Nw];rfl
theorem C7{s:Ds} {x:Vl} (h:AL s.ef) (c:x.args.length<=2):AL (put s x).ef:=λy a=>by
 have a:y∈s.ef++[x]:=a;rcases BK.1 a with b|b
 ·exact h y b
 ·rw[Jd.1 b];exact c
theorem y0{s:Ds}{x:Vl}(h:AL s.ef)(a:x.args.length<=2):AL (iJ s x).ef:=C7 h a
theorem VG{s:Ds} {k a b:Nat} (h:AL s.ef):AL (sq ops s k a b).ef:=by
 have hs:AL (fJ ops s).2.ef:=by rw[Be];exact h
 unfold sq;by_cases c:k<12
 ·rw[if_pos c];exact y0 h (by simp[vl])
 rw[if_neg c];by_cases c:k=12
 ·rw[if_pos c];exact y0 (s:=(num ops s 1048576).2) h (by simp[vl])
 rw[if_neg c];by_cases c:k=13
 ·rw[if_pos c];exact y0 (s:=(num ops s 5).2) h (by simp[vl])
 rw[if_neg c];by_cases c:k=14
 ·rw[if_pos c];exact y0 h (by simp[vl])
 rw[if_neg c];by_cases c:k=15
 ·rw[if_pos c];exact C7 (s:=(num ops s 5).2) h (by simp[vl])
 rw[if_neg c];by_cases c:k=16
 ·rw[if_pos c];exact C7 (s:=(fK ops s).2) h (by simp[vl])
 rw[if_neg c];by_cases c:k=17
 ·rw[if_pos c];exact C7 hs (by simp[vl])
 rw[if_neg c];by_cases c:k=18
 ·rw[if_pos c];exact C7 hs (by simp[vl])
 rw[if_neg c];exact y0 (s:=(num ops s 2).2) h (by simp[vl])
theorem Sb{s:Ds}(h:AL s.ef):AL (tM ops s).ef:=VG h
theorem TE:∀(i:Nat) (s:Ds),AL s.ef->AL (rows ops i s).ef
 |0,_,h=>h
 | i+1,s,h=>by
   unfold rows;split
   ·exact TE i _ (Sb h)
   ·exact h
theorem Fx{s:Ds}(h:AL s.ef):AL (row ops s).ef:=TE _ _ h
theorem DT{s:Ds} {v:Nat} {l:List Nat} (h:AL s.ef) (a:l.length<=2):AL (setArgs s v l).ef:=λy b=>by
 obtain⟨i,hi⟩:=mK.1 b;have hi:(s.ef.modify v λx=>{x with args:=l})[i]? =some y:=hi;rw[wCA]at hi
 cases hx:s.ef[i]? with
 |none=>rw[hx]at hi;cases hi
 | some x=>
   rw[hx]at hi;have hi:some (if v=i then{x with args:=l} else x)=some y:=hi;have:=Option.some.inj hi;subst this;split
   ·exact a
   ·exact h x (A7 hx)
theorem Zd{t:Dt} (h:AL t.s.ef):AL (fork ops t).s.ef:=by
 unfold fork;refine Fx (y0 ?_ (by simp[vl]));refine Fx (s:=(end_ _ _ _ _ _ _).s) ?_;exact Fx (s:=(end_ _ _ _ _ _ _).s) h
theorem Zs{t:Dt} (h:AL t.s.ef):AL (yo ops t).s.ef:=by
 unfold yo;refine Fx (s:=(end_ _ _ _ _ _ _).s) ?_;show AL (fJ ops _).2.ef;rw[Be];exact Fx (s:=(end_ _ _ _ _ _ _).s) h
theorem ZH{t:Dt} (h:AL t.s.ef):AL (loop ops t).s.ef:=by
 unfold loop;refine Fx (s:=(end_ _ _ _ _ _ _).s) ?_;refine DT (s:=_) ?_ (by simp);have b:∀(a:Ds) (p:Nat) (l c:List Nat),l.length<=2->c.length<=2->AL a.ef->AL (if(num ops (setArgs a p l) 3).1=0 then setArgs (num ops (setArgs a p l) 3).2 p c else(num ops (setArgs a p l) 3).2).ef:=λa p l c d f e=>by
  split
  ·exact DT (s:=(num ops (setArgs a p l) 3).2) (DT e d) f
  ·exact DT e d
 refine b _ _ _ _ (by simp) (by simp) ?_;refine Fx (s:=(end_ _ _ _ _ _ _).s) ?_;refine y0 (C7 (C7 ?_ (by simp[vl])) (by simp[vl])) (by simp[vl]);rw[Be];refine C7 (s:=(fK ops _).2) ?_ (by simp[vl]);exact C7 (s:=(end_ _ _ _ _ _ _).s) h (by simp[vl])
theorem Ny:∀(l:List Int) (t:Dt),AL t.s.ef->AL (lE ops l t).s.ef
 |[],_,h=>h
 | k ::l,t,h=>by
   unfold lE;split
   ·refine Ny l _ ?_
    unfold tW;split
    ·exact Zd h
    ·split
     ·exact ZH h
     ·exact Zs h
   ·exact h
theorem NO:∀(n i:Nat) (s:Ds),AL s.ef->AL (params n i s).ef
 |0,_,_,h=>h
 |n+1,i,s,h=>NO n (i+1) _ (y0 h (by simp[vl]))
theorem Zq(ops a:List Int) (n:Int):AL (G8 ops a n).ef:=by
 unfold G8;show AL (fJ ops _).2.ef;rw[Be];refine Ny _ _ ?_;exact Fx (y0 (NO _ _ _ (λ_ h=>nomatch h)) (by simp[vl]))
end
open Dm
def Sg(nx:Nat->List Nat)(DN:Int)(b:Nat):Prop:=∃l,Pt nx b l/\∀x∈l,(x:Int)≠DN
theorem UK{nx:Nat->List Nat} {a b:Nat}:¬Sg nx (a:Int) b↔ve nx a b:=by
 constructor
 ·intro h l c;refine Classical.byContradiction λf=>h ⟨l,c,λx d e=>f ?_⟩;have:x=a:=by omega
  rwa [this]at d
 ·rintro h ⟨l,c,d⟩;exact d a (h l c) rfl
structure Wo (n:Nat) (nx:Nat->List Nat) (DN:Int) (c:Option (Nat×Nat)) (seen:List Bool) (todo:List Nat):Prop where
 len:seen.length=n
 zero:seen[0]? =some true
 sound:∀v:Nat,seen[v]? =some true->Sg nx DN v
 work:∀v∈todo,seen[v]? =some true
 closed:∀v:Nat,seen[v]? =some true->v∈todo\/∀(k t:Nat),(nx v)[k]? =some t->(t:Int)≠DN->seen[t]? =some true\/∃j,c=some (v,j)/\j<=k
 less:todo.length+seen.count false<=n
theorem count_set{l:List Bool}:∀{v:Nat},l[v]? =some false->(l.set v true).count false+1=l.count false:=by
 induction l with
 |nil=>intro v h;simp at h
 | cons a l b=>
   intro v h
   cases v with
   | zero=>
     obtain rfl:a=false:=by simpa using h
     simp
   | succ v=>
     have:=b (v:=v) (by simpa using h);rw[lj,wCL,wCL];omega
section
variable{n:Nat}{nx:Nat->List Nat}{DN:Int}{seen:List Bool}{todo:List Nat}
theorem Wo.start(b:0<n) (h0:DN≠0):Wo n nx DN none ((List.replicate n false).set 0 true) [0]:=by
 have hs:∀v:Nat,((List.replicate n false).set 0 true)[v]? =some true->v=0:=λv hv=>by
  refine Classical.byContradiction λe=>?_;rw[C8 λh=>e h.symm,Wb]at hv;split at hv <;> cases hv
 have a:((List.replicate n false).set 0 true)[0]? =some true:=EK (by simp;omega);refine⟨by simp,a,λv hv=>?_,λv hv=>?_,λv hv=> .inl (by rw[hs v hv];simp),?_⟩
 ·rw[hs v hv];exact⟨[0],.nil,λx c=>by rw[Jd.1 c];omega⟩
 ·rw[Jd.1 hv];exact a
 ·have:=count_set (l:=List.replicate n false) (v:=0) (by rw[Wb,if_pos b]);rw[List.count_replicate_self]at this;simp only[X4];omega
theorem Wo.pop{b:Nat} (w:Wo n nx DN none seen (b::todo)):Wo n nx DN (some (b,0)) seen todo/\Sg nx DN b:=by
 have c:=w.less;rw[Dz]at c;refine⟨⟨w.len,w.zero,w.sound,λv hv=>w.work v (by simp[hv]),λv hv=>?_,by omega⟩,w.sound b (w.work b (by simp))⟩;rcases w.closed v hv with h|h
 ·rcases Jq.1 h with rfl|h
  ·exact .inr λk t _ _=> .inr ⟨0,rfl,by omega⟩
  ·exact .inl h
 ·refine .inr λk t d e=> .inl ?_;rcases h k t d e with a|⟨j,a,_⟩
  ·exact a
  ·cases a
theorem Wo.skip{b j t:Nat} (w:Wo n nx DN (some (b,j)) seen todo) (f:(nx b)[j]? =some t) (h:(t:Int)=DN\/seen[t]? =some true):Wo n nx DN (some (b,j+1)) seen todo:=by
 refine⟨w.len,w.zero,w.sound,w.work,λv hv=>?_,w.less⟩;rcases w.closed v hv with a|a
 ·exact .inl a
 ·refine .inr λk s c hs=>?_;rcases a k s c hs with d|⟨i,d,g⟩
  ·exact .inl d
  ·cases d;by_cases e:k=j
   ·subst e;rw[f]at c;cases c;rcases h with h|h
    ·exact absurd h hs
    ·exact .inl h
   ·exact .inr ⟨j+1,rfl,by omega⟩
theorem Wo.push{b j t:Nat} (w:Wo n nx DN (some (b,j)) seen todo) (o:(nx b)[j]? =some t) (q:Sg nx DN b) (r:(t:Int)≠DN) (p:seen[t]? =some false):Wo n nx DN (some (b,j+1)) (seen.set t true) (todo++[t]):=by
 have c:=(iR.1 p).1;have a:(seen.set t true)[t]? =some true:=EK c;have up:∀v:Nat,seen[v]? =some true->(seen.set t true)[v]? =some true:=λv hv=>by
  by_cases e:v=t
  ·rw[e];exact a
  ·rw[C8 λh=>e h.symm];exact hv
 have down:∀v:Nat,(seen.set t true)[v]? =some true->v=t\/seen[v]? =some true:=λv hv=>by
  by_cases e:v=t
  ·exact .inl e
  ·rw[C8 λh=>e h.symm]at hv;exact .inr hv
 refine⟨by rw[Mi];exact w.len,up 0 w.zero,λv hv=>?_,λv hv=>?_,λv hv=>?_,?_⟩
 ·rcases down v hv with rfl|h
  ·obtain ⟨l,u,y⟩:=q;exact⟨v::l,.step u (A7 o),λx d=>by
    rcases Jq.1 d with rfl|h
    ·exact r
    ·exact y x h⟩
  ·exact w.sound v h
 ·rcases BK.1 hv with h|h
  ·exact up v (w.work v h)
  ·rw[Jd.1 h];exact a
 ·rcases down v hv with rfl|h
  ·exact .inl (by simp)
  ·rcases w.closed v h with f|f
   ·exact .inl (by simp[f])
   ·refine .inr λk s g hs=>?_;rcases f k s g hs with m|⟨i,m,z⟩
    ·exact .inl (up s m)
    ·cases m;by_cases e:k=j
     ·subst e;rw[o]at g;cases g;exact .inl a
     ·exact .inr ⟨j+1,rfl,by omega⟩
 ·have:=count_set p;have:=w.less;rw[y6,X4];omega
theorem Wo.next{b:Nat} (w:Wo n nx DN (some (b,(nx b).length)) seen todo):Wo n nx DN none seen todo:=by
 refine⟨w.len,w.zero,w.sound,w.work,λv hv=>(w.closed v hv).imp id λh k t c d=>?_,w.less⟩;rcases h k t c d with a|⟨j,a,e⟩
 ·exact .inl a
 ·cases a;have:=(iR.1 c).1;omega
theorem Wo.all(w:Wo n nx DN none seen []):∀{b:Nat} {l:List Nat},Pt nx b l->(∀x∈l,(x:Int)≠DN)->seen[b]? =some true
 |_,_,.nil,_=>w.zero
 | _,_,.step (p:=p) h e,hx=>by
   have d:=w.all h λx h=>hx x (Ud _ h);obtain⟨k,f⟩:=mK.1 e;rcases w.closed p d with a|a
   ·cases a
   ·rcases a k _ f (hx _ (US ..))with c|⟨_,c,_⟩
    ·exact c
    ·cases c
theorem Wo.iff(w:Wo n nx DN none seen []) (b:Nat):seen[b]? =some true↔Sg nx DN b:=
 ⟨w.sound b,λ⟨_,a,c⟩=>w.all a c⟩
theorem U5{b:Nat} (h:DN=0):¬Sg nx DN b:=by
 rintro⟨l,c,a⟩;have:0∈l:=by
  clear a
  induction c with
  |nil=>exact .head _
  |step _ _ d=>exact .tail _ d
 exact a 0 this (by omega)
end
open Dm
def Pu(op:Nat):Bool:=2<=op&&op<=16
def zce(as:Nat->Int) (l:List Nat) (i:Nat):Int:=match l[i]? with
 |some w=>as w
 |none=>-1
def keyOf(as:Nat->Int)(x:Vl):Nat×Int×Int×Int:=(x.op,zce as (je x) 0,zce as (je x) 1,if x.op=2 then x.n else 0)
def zab(u:U)(w v:Nat):Prop:=∃c j b k,At u w c j/\At u v b k/\(c=b/\j<k\/c≠b/\ve (next u) c b)
structure zcn (u:U) (as:Nat->Int):Prop where
 stay:∀(v:Nat) (x:Vl),u.ef[v]? =some x->Pu x.op=false->as v=(v:Int)
 num:∀(v:Nat) (x:Vl),u.ef[v]? =some x->Pu x.op=true->
  (as v=(v:Int)/\∀(w:Nat) (y:Vl),u.ef[w]? =some y->Pu y.op=true->as w=(w:Int)->zab u w v->keyOf as y≠keyOf as x)\/
  ∃(w:Nat) (y:Vl),as v=(w:Int)/\u.ef[w]? =some y/\Pu y.op=true/\as w=(w:Int)/\zab u w v/\keyOf as y=keyOf as x
section
variable{u:U}(g:Good u){as:Nat->Int}(d:zcn u as)
include d
include g
end
open Dm
def BM(n:Int):Int:=n % 18446744073709551616
def Et(n:Int):Int:=if n<9223372036854775808 then n else n-18446744073709551616
def IC(b:Bool):Int:=if b=true then 1 else 0
def LH(op:Nat) (a b:Int):Int:=
 if op=3 then BM (a+b) else if op=4 then BM (a-b) else if op=5 then BM (a*b)
 else if op=6 then(if Et b=0 then 0 else if Et b = -1 then BM (-a) else BM ((Et a).tdiv (Et b)))
 else if op=7 then(if Et b=0\/Et b = -1 then 0 else BM ((Et a).tmod (Et b)))
 else if op=8 then BM (-a) else if op=9 then IC (decide (a=0)) else if op=10 then IC (decide (a=b)) else if op=11 then IC (decide (a≠b))
 else if op=12 then IC (decide (Et a<Et b)) else if op=13 then IC (decide (Et a<=Et b)) else if op=14 then IC (decide (a<b)) else 0
def sV(h:List Int)(a:Int):Int:=h.getD a.toNat 0
def Mn(h:List Int)(a v:Int):List Int:=if a=0 then h else h.set a.toNat v
def Fs(x:Vl) (val:Nat->Int) (h:List Int):Int:=
 if x.op=2 then BM x.n else if x.op=15 then sV h (val x.a) / 4294967296 else if x.op=16 then sV h (val x.a) % 4294967296
 else if x.op=17 then sV h (BM (val x.a+BM x.n)) else if x.op=18 then sV h (BM (BM (val x.a+1)+val x.b))
 else if x.op=8\/x.op=9 then LH x.op (val x.a) 0 else LH x.op (val x.a) (val x.b)
structure Rs where
 val:List Int
 heap:List Int
 steps:Nat
 polls:Nat
def Rs.of(s:Rs)(v:Nat):Int:=s.val.getD v 0
structure Fw where
 func:Int
 pc:Int
 locals:List Int
 stack:List Int
inductive Ex where
 |zK
 |left (steps:Nat) (fr:List Fw) (heap:List Int)
 |stuck
def vh(u:U)(s:Rs)(st:Nat):Ex:= .left s.steps (((u.eh[st]?).getD []).map λf=>⟨f.func,f.pc,f.locals.map s.of,f.stack.map s.of⟩) s.heap
def zk(u:U) (gS:Int) (n:Nat) (x:Vl) (s:Rs):Ex ⊕ Rs:=
 if x.op=19 then .inr {s with heap:=Mn s.heap (BM (s.of x.a+BM x.n)) (s.of x.b),steps:=s.steps+1}
 else if x.op=20 then .inr {s with heap:=Mn s.heap (BM (BM (s.of x.a+1)+s.of x.b)) (s.of (x.args.getD 0 0)),steps:=s.steps+1}
 else if x.op=22 then(if s.of x.a=0 then .inl (vh u {s with steps:=s.steps+1} x.state) else .inr {s with steps:=s.steps+1})
 else if x.op=23 then(if 0<=gS/\(s.polls:Int)=gS then .inl (vh u {s with steps:=s.steps+1} x.state) else .inr {s with steps:=s.steps+1,polls:=s.polls+1})
 else .inr {s with val:=s.val.set n (Fs x s.of s.heap),steps:=s.steps+1}
def pB(u:U) (gS:Int) (fuel:Nat):List Nat->Rs->Ex ⊕ Rs
 |[],s=> .inr s
 | n ::l,s=>if fuel<=s.steps then .inl .zK else match u.ef[n]? with
   |none=> .inl .stuck
   | some x=>match zk u gS n x s with
     | .inl e=> .inl e
     | .inr s=>pB u gS fuel l s
def gR(u:U) (v:Nat):Bool:=match u.ef[v]? with
 |some x=>iH x.op
 |none=>false
def LW(u:U) (locals:List Int) (oA:Option Nat) (B:Bk) (val:Nat->Int) (v:Nat):Int:=match u.ef[v]? with
 | some x=>if x.op=1 then locals.getD x.n.toNat 0 else match oA with
   | some p=>match B.fg.findIdx? (·== p)with
     |some j=>val (x.args.getD j 0)
     |none=>0
   |none=>0
 |none=>0
def xo(val:List Int)(l:List (Nat×Int)):List Int:=l.foldl (λa p=>a.set p.1 p.2) val
def oi(u:U) (locals:List Int) (oA:Option Nat) (B:Bk) (s:Rs):Rs:=
 let hs:=B.ef.takeWhile (gR u)
 {s with val:=xo s.val (hs.map λv=>(v,LW u locals oA B s.of v)),steps:=s.steps+hs.length}
def D1(B:Bk)(s:Rs):Option Nat:=if B.fin=1 then B.next[0]? else if B.fin=2 then(if s.of B.cond=0 then B.next[1]? else B.next[0]?) else none
def runM(u:U) (locals:List Int) (gS:Int) (fuel:Nat):Nat->Option Nat->Nat->Rs->Ex
 |0,_,_,_=> .stuck
 | Eu+1,oA,b,s=>match u.blocks[b]? with
   |none=> .stuck
   | some B=>match pB u gS fuel (B.ef.dropWhile (gR u)) (oi u locals oA B s)with
     | .inl e=>e
     | .inr s=>if fuel<=s.steps then .zK else if B.fin=3 then vh u {s with steps:=s.steps+1} B.state else match D1 B s with
       |none=> .stuck
       |some t=>runM u locals gS fuel Eu (some b) t {s with steps:=s.steps+1}
def xy(u:U)(heap:List Int):Rs:=⟨List.replicate u.ef.length 0,heap,0,0⟩
def Ex.As:Ex->Ex->Prop
 | .left n fr h,.left n' fr' h'=>n'<=n/\fr' = fr/\h' = h
 | .left _ _ _,_=>False
 |_,_=>True
section
variable{u:U}{as:Nat->Int}
structure Alike (u:U) (as:Nat->Int) (s s':Rs):Prop where
 len:s.val.length=u.ef.length
 Ej:s'.val.length=(fI u as).length
 val:∀v∈fI u as,s'.of ((fI u as).idxOf v)=s.of v
 heap:s'.heap=s.heap
 steps:s'.steps<=s.steps
 polls:s'.polls=s.polls
structure Way (u:U) (as:Nat->Int) (locals:List Int) (gS:Int) (heap:List Int) (I:Nat->Nat->Rs->Prop):Prop where
 start:∀B:Bk,u.blocks[0]? =some B->I 0 (B.ef.takeWhile (gR u)).length (oi u locals none B (xy u heap))
 NL:∀(b t:Nat) (B T:Bk) (s:Rs),u.blocks[b]? =some B->u.blocks[t]? =some T->t∈B.next->I b B.ef.length s->s.val.length=u.ef.length->I t (T.ef.takeWhile (gR u)).length (oi u locals (some b) T {s with steps:=s.steps+1})
 one:∀(b k v:Nat) (x:Vl) (s a:Rs),At u v b k->u.ef[v]? =some x->gR u v=false->I b k s->s.val.length=u.ef.length->zk u gS v x s = .inr a->I b (k+1) a
 use:∀(b k w:Nat) (r:Nat) (s:Rs),I b k s->s.val.length=u.ef.length->JH u w b k->as w=(r:Int)->s.of r=s.of w
theorem IP{l:List Int} {i j:Nat} {x:Int} (hi:i<l.length):(l.set i x).getD j 0=if j=i then x else l.getD j 0:=by
 rw[BO,BO];by_cases e:j=i
 ·subst e;rw[EK hi,if_pos rfl];rfl
 ·rw[C8 λh=>e h.symm,if_neg e]
theorem Dx(l:List (Nat×Int)):∀val:List Int,(xo val l).length=val.length:=by
 induction l with
 |nil=>exact λ_=>rfl
 | cons p l a=>
   intro val;show(xo (val.set p.1 p.2) l).length=_;rw[a,Mi]
theorem HP{f:Nat->Int} {j:Nat}:∀(l:List Nat) (val:List Int),(∀v∈l,v<val.length)->(xo val (l.map λv=>(v,f v))).getD j 0=if j∈l then f j else val.getD j 0
 |[],_,_=>by simp[xo]
 | v ::l,val,h=>by
   show(xo (val.set v (f v)) (l.map λv=>(v,f v))).getD j 0=_;rw[HP l _ λw c=>by rw[Mi];exact h w (by simp[c]),IP (h v (by simp))];by_cases a:j∈l
   ·simp[a]
   ·by_cases b:j=v
    ·simp[b]
    ·simp[a,b]
end
theorem HZ{u:U} {w b:Nat} {B:Bk} (f:u.blocks[b]? =some B) (h:xI u w b):JH u w b B.ef.length:=by
 obtain⟨c,j,a,g⟩:=h;refine⟨c,j,a,?_⟩;by_cases e:c=b
 ·subst e;obtain⟨k,d,i⟩:=a;rw[f]at d;cases d;exact .inl ⟨rfl,(iR.1 i).1⟩
 ·exact .inr ⟨e,g⟩
section
variable{u:U}(g:Good u){as:Nat->Int}(f:Fit u as){I:Nat->Nat->Rs->Prop}{locals:List Int}{gS:Int}{heap:List Int}(W:Way u as locals gS heap I)
include g f W
theorem OU{b k w:Nat} {s s':Rs} (e:I b k s) (d:Alike u as s s') (hs:JH u w b k) (h0:0<=as w):s'.of (nm u as w)=s.of w:=by
 obtain⟨c,j,a,_⟩:=id hs;obtain⟨r,h,i,l⟩:=PW g f (g.mb _ _ _ a) h0;rw[l,d.val r i];exact W.use b k w r s e d.len hs h
theorem ML{b k st:Nat} {s s':Rs} {fs:List Fm} (j:I b k s) (i:Alike u as s s') (m:st∈CG u as) (c:u.eh[st]? =some fs) (hs:∀w∈gJ fs,JH u w b k/\0<=as w) :
  ∃fr,vh u {s with steps:=s.steps+1} st = .left (s.steps+1) fr s.heap/\vh (gZ u as) {s' with steps:=s'.steps+1} ((CG u as).idxOf st) = .left (s'.steps+1) fr s.heap:=by
 refine ⟨_,rfl,?_⟩;unfold vh;rw[My m c,c,i.heap];simp only[Option.getD_some,List.map_map];congr 1;refine Wr λa d=>?_;have e:∀l:List Nat,(∀w∈l,w∈gJ fs)->(l.map (nm u as)).map s'.of=l.map s.of:=λl n=>by
  rw[List.map_map];refine Wr λw h=>?_;obtain⟨o,p⟩:=hs w (n w h);exact OU g f W j i o p
 show Fw.mk a.func a.pc ((a.locals.map (nm u as)).map s'.of) ((a.stack.map (nm u as)).map s'.of)=_;rw[e a.locals λw h=>by unfold gJ;exact Ni.2 ⟨a,d,Rh _ h⟩,e a.stack λw h=>by unfold gJ;exact Ni.2 ⟨a,d,wBW _ h⟩];rfl
variable (DV:∀(v:Nat)(x:Vl),u.ef[v]? =some x->stays as v=false->x.op≠19/\x.op≠20/\x.op≠22/\x.op≠23)
include DV
omit g f W DV in
theorem Ld {x:Vl}:(two x.op=true->x.op≠21->x.a∈je x/\x.b∈je x)/\(pg x.op=true->x.op≠21->x.a∈je x):=by
 constructor
 ·intro h h1;unfold je;rw[if_neg h1];by_cases h2:x.op=20
  ·rw[if_pos h2];simp
  ·rw[if_neg h2,if_pos h];simp
 ·intro h h1;unfold je;rw[if_neg h1];by_cases h2:x.op=20
  ·rw[if_pos h2];simp
  ·rw[if_neg h2];by_cases h3:two x.op=true
   ·rw[if_pos h3];simp
   ·rw[if_neg h3,if_pos h];simp
omit DV in
theorem za4 {b k v:Nat} {x:Vl} {s s':Rs} (Ri:At u v b k) (hx:u.ef[v]? =some x) (hh:gR u v=false) (Wq:stays as v=true) (hI:I b k s) (ha:Alike u as s s') :
  (∀n fr hp,zk u gS v x s = .inl (.left n fr hp)->∃n',n'<=n/\zk (gZ u as) gS ((fI u as).idxOf v) (gW u as x) s' = .inl (.left n' fr hp))/\
  (∀s1,zk u gS v x s = .inr s1->∃s1',zk (gZ u as) gS ((fI u as).idxOf v) (gW u as x) s' = .inr s1'/\Alike u as s1 s1'):=by
 have Zw:x.op≠21:=λe=>by
  unfold gR at hh;rw[hx]at hh;simp[iH,e]at hh
 have hvl:=(iR.1 hx).1;have hm:v∈fI u as:=(iM g).2 ⟨hvl,Wq⟩;have eu:∀w∈je x,s'.of (nm u as w)=s.of w:=λw hw=>OU g f W hI ha (g.NU v b k x Ri hx Zw w hw) (f.use v x hx Wq w hw);have ea:two x.op=true\/pg x.op=true->s'.of (gW u as x).a=s.of x.a:=λh=>by
  have:(gW u as x).a=nm u as x.a:=by
   show(if _ then nm u as x.a else x.a)=_;rcases h with h|h
   ·rw[if_pos (by rw[if_pos h];decide)]
   ·rw[if_pos (by rw[if_pos h];split <;> decide)]
  rw[this];exact eu _ (h.elim (λh=>(Ld.1 h Zw).1) λh=>Ld.2 h Zw)
 have eb:two x.op=true->s'.of (gW u as x).b=s.of x.b:=λh=>by
  have:(gW u as x).b=nm u as x.b:=if_pos h;rw[this];exact eu _ (Ld.1 h Zw).2
 have hop:=g.op v x hx;have stp:=ha.steps;have pol:=ha.polls;have hp:=ha.heap;have goH:∀(q q':List Int),q' = q->Alike u as {s with heap:=q,steps:=s.steps+1} {s' with heap:=q',steps:=s'.steps+1}:=λq q' e=>⟨ha.len,ha.Ej,ha.val,e,by simp only;omega,pol⟩
 have lv:leaves x.op=true->∃fs,u.eh[x.state]? =some fs/\(gW u as x).state=(CG u as).idxOf x.state/\x.state∈CG u as/\∀w∈gJ fs,JH u w b k/\0<=as w:=λhl=>by
  have hs0:=g.leave v x hx hl;have hfs:=gP hs0;exact⟨_,hfs,if_pos hl,YQ g Wq hx hl,λw hw=>⟨g.Oa v b k x _ Ri hx hl hfs w hw,f.st v x _ hx Wq hl hfs w hw⟩⟩
 unfold zk;rw[show(gW u as x).op=x.op from rfl,show(gW u as x).n=x.n from rfl];by_cases h19:x.op=19
 ·have e2:two x.op=true:=by rw[h19];rfl
  rw[if_pos h19,if_pos h19];refine⟨λ_ _ _ h=>(nomatch h),λs1 h=>?_⟩;cases h;exact⟨_,rfl,goH _ _ (by rw[hp,ea (.inl e2),eb e2])⟩
 rw[if_neg h19,if_neg h19];by_cases h20:x.op=20
 ·have e2:two x.op=true:=by rw[h20];rfl
  rw [if_pos h20,if_pos h20];refine⟨λ_ _ _ h=>(nomatch h),λs1 h=>?_⟩;cases h;refine⟨_,rfl,goH _ _ ?_⟩;have hl:=g.putAt v x hx h20;have eC:s'.of ((gW u as x).args.getD 0 0)=s.of (x.args.getD 0 0):=by
   have:(gW u as x).args=x.args.map (nm u as):=if_pos (.inr h20);rw[this]
   match hq:x.args,hl with
   | [w],_=>
     refine eu w ?_;unfold je;rw[if_neg Zw,if_pos h20,hq];simp
  rw[hp,ea (.inl e2),eb e2,eC]
 rw[if_neg h20,if_neg h20];by_cases h22:x.op=22
 ·have e1:pg x.op=true:=by rw[h22];rfl
  rw[if_pos h22,if_pos h22,ea (.inr e1)];obtain⟨fs,l1,l2,l3,l4⟩:=lv (by rw[h22];rfl);by_cases hz:s.of x.a=0
  ·rw[if_pos hz,if_pos hz];refine⟨λn fr q h=>?_,λ_ h=>(nomatch h)⟩;obtain⟨fr',g1,g2⟩:=ML g f W hI ha l3 l1 l4;rw[g1]at h;cases h;exact⟨s'.steps+1,by omega,by rw[l2,g2]⟩
  ·rw[if_neg hz,if_neg hz];refine⟨λ_ _ _ h=>(nomatch h),λs1 h=>?_⟩;cases h;exact⟨_,rfl,goH _ _ hp⟩
 rw[if_neg h22,if_neg h22];by_cases h23:x.op=23
 ·rw [if_pos h23,if_pos h23,pol];obtain⟨fs,l1,l2,l3,l4⟩:=lv (by rw[h23];rfl);by_cases hz:0<=gS/\(s.polls:Int)=gS
  ·rw [if_pos hz,if_pos hz];refine⟨λn fr q h=>?_,λ_ h=>(nomatch h)⟩;obtain⟨fr',g1,g2⟩:=ML g f W hI ha l3 l1 l4;rw[g1]at h;cases h;have g2':vh (gZ u as) {s' with steps:=s'.steps+1,polls:=s.polls} ((CG u as).idxOf x.state) = .left (s'.steps+1) fr s.heap:=by
    rw[<-pol];exact g2
   exact⟨s'.steps+1,by omega,by rw[l2];exact congrArg _ g2⟩
  ·rw[if_neg hz,if_neg hz];refine⟨λ_ _ _ h=>(nomatch h),λs1 h=>?_⟩;cases h;exact⟨_,rfl,ha.len,ha.Ej,ha.val,hp,by simp only;omega,by simp only⟩
 rw [if_neg h23,if_neg h23];refine⟨λ_ _ _ h=>(nomatch h),λs1 h=>?_⟩;cases h;have eV:Fs (gW u as x) s'.of s'.heap=Fs x s.of s.heap:=by
  have h1:x.op≠1:=λe=>by
   unfold gR at hh;rw[hx]at hh;simp[iH,e]at hh
  unfold Fs;rw[show(gW u as x).op=x.op from rfl,show(gW u as x).n=x.n from rfl,hp];have ht:x.op≠2->two x.op=true\/pg x.op=true:=λh2=>by
   unfold two pg;simp only[KM,uZ,AW,z8];omega
  by_cases h2:x.op=2
  ·rw[if_pos h2,if_pos h2]
  rw [if_neg h2,if_neg h2,ea (ht h2)];have htw:x.op≠15->x.op≠16->x.op≠17->¬(x.op=8\/x.op=9)->two x.op=true:=λa1 a2 a3 a4=>by
   unfold two;simp only[KM,uZ,AW,z8];omega
  by_cases h15:x.op=15
  ·rw[if_pos h15,if_pos h15]
  rw[if_neg h15,if_neg h15];by_cases h16:x.op=16
  ·rw[if_pos h16,if_pos h16]
  rw[if_neg h16,if_neg h16];by_cases h17:x.op=17
  ·rw[if_pos h17,if_pos h17]
  rw[if_neg h17,if_neg h17];by_cases h18:x.op=18
  ·rw[if_pos h18,if_pos h18,eb (by rw[h18];rfl)]
  rw[if_neg h18,if_neg h18];by_cases h89:x.op=8\/x.op=9
  ·rw[if_pos h89,if_pos h89]
  ·rw[if_neg h89,if_neg h89,eb (htw h15 h16 h17 h89)]
 rw[eV];refine⟨_,rfl,by simp only[Mi];exact ha.len,by simp only[Mi];exact ha.Ej,λw hw=>?_,hp,by simp only;omega,pol⟩;show(s'.val.set _ _).getD _ 0=(s.val.set _ _).getD _ 0;rw[IP (by rw[ha.Ej];exact wBX hm),IP (by rw[ha.len];exact hvl)];by_cases e:w=v
 ·subst e;rw[if_pos rfl,if_pos rfl]
 ·rw[if_neg e,if_neg λh=>e (Ug hw hm h)];exact ha.val w hw
theorem Uf{fuel b:Nat} {B:Bk} (D:u.blocks[b]? =some B):∀(l:List Nat) (k:Nat) (s s':Rs),B.ef.drop k=l->k+l.length=B.ef.length->(∀v∈l,gR u v=false)->I b k s->Alike u as s s'->
  (∀n fr hp,pB u gS fuel l s = .inl (.left n fr hp)->∃o,o<=n/\pB (gZ u as) gS fuel ((l.filter (stays as)).map (fI u as).idxOf) s' = .inl (.left o fr hp))/\
  (∀c,pB u gS fuel l s = .inr c->∃a,pB (gZ u as) gS fuel ((l.filter (stays as)).map (fI u as).idxOf) s' = .inr a/\Alike u as c a/\I b B.ef.length c)
 | [],k,s,s',hl,p,_,hI,ha=>by
   refine⟨λn fr hp h=>(nomatch h),λc h=>?_⟩;cases h;have p:k=B.ef.length:=by simpa using p
   subst p
   exact⟨s',rfl,ha,hI⟩
 | v ::l,k,s,s',hl,p,hh,hI,ha=>by
   have q:k<B.ef.length:=by rw[Dz]at p;omega
   rw[XU q]at hl;obtain⟨hv,t⟩:=List.cons.inj hl;have d:At u v b k:=⟨B,D,by rw[<-hv];exact gP q⟩
   have i:=g.mb _ _ _ d;have j:=gP i;generalize u.ef[v]=x at j;have m:=hh v (by simp);have E:=λ(c a:Rs) (y:I b (k+1) c) (z:Alike u as c a)=>Uf D (fuel:=fuel) l (k+1) c a t (by rw[Dz]at p;omega) (λw r=>hh w (by simp[r])) y z;show(∀n fr hp,(if fuel<=s.steps then _ else _)=_->_)/\(∀c,(if fuel<=s.steps then _ else _)=_->_);by_cases hf:fuel<=s.steps
   ·rw[if_pos hf]
    exact⟨λn fr hp h=>(nomatch h),λc h=>(nomatch h)⟩
   rw[if_neg hf,j];simp only;have F:=ha.steps
   cases Wq:stays as v with
   | true=>
     have G:v∈fI u as:=(iM g).2 ⟨i,Wq⟩;have e:((v::l).filter (stays as)).map (fI u as).idxOf=(fI u as).idxOf v::(l.filter (stays as)).map (fI u as).idxOf:=by rw[WC,if_pos Wq];rfl
     rw[e];show(∀n fr hp,_->∃o,o<=n/\(if fuel<=s'.steps then _ else _)=_)/\(∀c,_->∃a,(if fuel<=s'.steps then _ else _)=_/\_);rw[if_neg (show ¬fuel<=s'.steps by omega),Dj (qE G) j];simp only;obtain⟨H,J⟩:=za4 g f W d j m Wq hI ha
     cases hq:zk u gS v x s with
     | inl e=>
       refine⟨λn fr hp h=>?_,λc h=>(nomatch h)⟩;simp only at h;cases h;obtain⟨o,A,C⟩:=H _ _ _ hq
       exact⟨o,A,by rw[C]⟩
     | inr c=>
       obtain⟨a,A,C⟩:=J _ hq;rw[A]
       exact E c a (W.one b k v x s c d j m hI ha.len hq) C
   | false=>
     have e:((v::l).filter (stays as)).map (fI u as).idxOf=(l.filter (stays as)).map (fI u as).idxOf:=by rw[WC,if_neg (by rw[Wq];simp)]
     rw[e];obtain⟨d1,d2,d3,K⟩:=DV v x j Wq;have hq:zk u gS v x s = .inr {s with val:=s.val.set v (Fs x s.of s.heap),steps:=s.steps+1}:=by
       unfold zk;rw[if_neg d1,if_neg d2,if_neg d3,if_neg K]
     rw[hq];refine E _ s' (W.one b k v x s _ d j m hI ha.len hq) ⟨by simp only[Mi];exact ha.len,ha.Ej,λw r=>?_,ha.heap,by simp only;omega,ha.polls⟩;rw[ha.val w r];show _=(s.val.set _ _).getD _ 0;rw[IP (by rw[ha.len];exact i),if_neg λe=>by
       subst e;have:=((iM g).1 r).2;rw[Wq]at this;cases this]
     rfl
omit f W DV in
theorem Ho {b:Nat} {B:Bk} (hB:u.blocks[b]? =some B):∀v∈B.ef.dropWhile (gR u),gR u v=false:=by
 have e:=wBD (p:=gR u) (l:=B.ef)
 cases hd:B.ef.dropWhile (gR u)with
 |nil=>intro v hv;cases hv
 | cons w r=>
   have hw:gR u w=false:=by
     have:=List.head?_dropWhile_not (gR u) B.ef;rw[hd]at this;simpa using this
   intro v hv
   cases hq:gR u v with
   |false=>rfl
   | true=>
     exfalso;rw[hd]at e;generalize B.ef.takeWhile (gR u)=hs at e;obtain⟨n,hn⟩:=mK.1 hv;have a1:At u v b (hs.length+n):=⟨B,hB,by rw[<-e,Rf (by omega)];rw[wBr];exact hn⟩
     have a2:At u w b hs.length:=⟨B,hB,by rw[<-e,Rf (by omega),Nat.sub_self];rfl⟩
     have hx:=gP (g.mb _ _ _ a1);have hy:=gP (g.mb _ _ _ a2);unfold gR at hq hw;rw[hx]at hq;rw[hy]at hw;have:=O3 g a1 hx hq a2 hy (by omega);simp only at hw;rw[this]at hw;cases hw
omit g f W DV in
theorem Sv {p:Nat->Bool} {x:Nat}:∀{l:List Nat},x∈l.takeWhile p->p x=true
 |[],h=>by cases h
 | a ::l,h=>by
   rw[List.takeWhile_cons]at h;split at h
   ·rename_i ha
    rcases Jq.1 h with rfl|h
    ·exact ha
    ·exact Sv h
   ·cases h
omit g f W DV in
theorem GZ {p:Nat->Bool}:∀{a b:List Nat},(∀x∈a,p x=true)->(∀x∈b,p x=false)->(a++b).takeWhile p=a/\(a++b).dropWhile p=b
 | [],b,_,hb=>by
   cases b with
   |nil=>exact⟨rfl,rfl⟩
   | cons x b=>
     have:=hb x (by simp)
     simp[this]
 | x::a,b,ha,hb=>by
   obtain⟨h1,h2⟩:=GZ (a:=a) (b:=b) (λy hy=>ha y (by simp[hy])) hb;have:=ha x (by simp);simp[this,h1,h2]
omit f W DV in
theorem We {v:Nat} (hv:v∈fI u as):gR (gZ u as) ((fI u as).idxOf v)=gR u v:=by
 have hx:=gP ((iM g).1 hv).1;unfold gR;rw[Dj (qE hv) hx,hx];rfl
omit f W DV in
theorem TH {b:Nat} {B:Bk} (hB:u.blocks[b]? =some B) :
  (mF u as B).ef.takeWhile (gR (gZ u as))=((B.ef.takeWhile (gR u)).filter (stays as)).map (fI u as).idxOf/\(mF u as B).ef.dropWhile (gR (gZ u as))=((B.ef.dropWhile (gR u)).filter (stays as)).map (fI u as).idxOf:=by
 have e:(mF u as B).ef=((B.ef.takeWhile (gR u)).filter (stays as)).map (fI u as).idxOf++((B.ef.dropWhile (gR u)).filter (stays as)).map (fI u as).idxOf:=by
  rw[<-Ji,<-ZG,wBD];rfl
 have JC:∀v∈B.ef,stays as v=true->v∈fI u as:=λv hv hs=>by
  obtain⟨k,hk⟩:=mK.1 hv;exact(iM g).2 ⟨g.mb v b k ⟨B,hB,hk⟩,hs⟩
 rw[e];refine GZ (λx hx=>?_) λx hx=>?_
 ·obtain⟨v,hv,rfl⟩:=K4.1 hx;obtain⟨h1,h2⟩:=MS.1 hv;rw[We g (JC v (List.takeWhile_subset _ h1) h2)];exact Sv h1
 ·obtain⟨v,hv,rfl⟩:=K4.1 hx;obtain⟨h1,h2⟩:=MS.1 hv;rw[We g (JC v (List.dropWhile_subset _ h1) h2)];exact Ho g hB v h1
omit f W DV in
theorem VN {b:Nat} {B:Bk} {oA:Option Nat} {s s':Rs} (hB:u.blocks[b]? =some B) (ha:Alike u as s s')
  (zd1:∀(v k:Nat) (x:Vl) (j p a:Nat),At u v b k->stays as v=true->u.ef[v]? =some x->x.op=21->oA=some p->B.fg[j]? =some p->x.args[j]? =some a->s'.of (nm u as a)=s.of a) :
  Alike u as (oi u locals oA B s) (oi (gZ u as) locals oA (mF u as B) s'):=by
 obtain ⟨e1,_⟩:=TH (as:=as) g hB;have Q2:∀v∈B.ef.takeWhile (gR u),∃k,At u v b k:=λv hv=>by
  obtain⟨k,hk⟩:=mK.1 (List.takeWhile_subset _ hv);exact⟨k,B,hB,hk⟩
 have hw:∀v∈B.ef.takeWhile (gR u),stays as v=true->LW (gZ u as) locals oA (mF u as B) s'.of ((fI u as).idxOf v)=LW u locals oA B s.of v:=by
  intro v hv hs;obtain⟨k,Ri⟩:=Q2 v hv;have hvl:=g.mb _ _ _ Ri;have hx:=gP hvl;generalize u.ef[v]=x at hx;have hm:v∈fI u as:=(iM g).2 ⟨hvl,hs⟩;unfold LW;rw[Dj (qE hm) hx,hx];show(if x.op=1 then _ else _)=(if x.op=1 then _ else _)
  by_cases h1:x.op=1
  ·rw[if_pos h1,if_pos h1];rfl
  rw [if_neg h1,if_neg h1];have Zw:x.op=21:=by
   have:=Sv hv;unfold gR at this;rw[hx]at this;unfold iH at this;rw[KM,z8,z8]at this;omega
  cases hf:oA with
  |none=>rfl
  | some p=>
    show (match B.fg.findIdx? (·== p)with
      |some j=>s'.of ((gW u as x).args.getD j 0)
      |none=>0)=(match B.fg.findIdx? (·== p)with
      |some j=>s.of (x.args.getD j 0)
      |none=>0)
    cases hj:B.fg.findIdx? (·== p)with
    |none=>rfl
    | some j=>
      simp only;obtain⟨hjl,hjp,_⟩:=List.findIdx?_eq_some_iff_getElem.1 hj;rw[z8]at hjp;have hpl:=(g.Ko v b k x B Ri hx Zw hB).2;have hja:x.args[j]? =some x.args[j]:=gP (by omega);have e:(gW u as x).args=x.args.map (nm u as):=if_pos (.inl Zw);rw[e,BO,zG,hja,BO,hja];exact zd1 v k x j p _ Ri hs hx Zw hf (by rw[gP hjl,hjp]) hja
 unfold oi;simp only;rw[e1];have hv0:∀v∈B.ef.takeWhile (gR u),v<s.val.length:=λv hv=>by
  obtain⟨k,Ri⟩:=Q2 v hv;rw[ha.len];exact g.mb _ _ _ Ri
 refine⟨by simp only[Dx];exact ha.len,by simp only[Dx];exact ha.Ej,λv hv=>?_,ha.heap,?_,ha.polls⟩
 ·show (xo s'.val _).getD _ 0=(xo s.val _).getD _ 0;rw[HP _ _ hv0,HP _ _ λw hw=>by
   obtain⟨v',hv',rfl⟩:=K4.1 hw;obtain⟨h1,h2⟩:=MS.1 hv';obtain⟨k,Ri⟩:=Q2 v' h1;rw[ha.Ej];exact wBX ((iM g).2 ⟨g.mb _ _ _ Ri,h2⟩)]
  by_cases hm:v∈B.ef.takeWhile (gR u)
  ·rw[if_pos hm,if_pos (K4.2 ⟨v,MS.2 ⟨hm,((iM g).1 hv).2⟩,rfl⟩)];exact hw v hm ((iM g).1 hv).2
  ·rw [if_neg hm,if_neg λh=>by
    obtain⟨v',hv',e⟩:=K4.1 h;obtain⟨h1,h2⟩:=MS.1 hv';obtain⟨k,Ri⟩:=Q2 v' h1;obtain rfl:=Ug ((iM g).2 ⟨g.mb _ _ _ Ri,h2⟩) hv e;exact hm h1]
   exact ha.val v hv
 ·simp only[CD];have:=wBg (stays as) (B.ef.takeWhile (gR u));have:=ha.steps;omega
theorem Wt{fuel:Nat}:∀(Eu:Nat) (oA:Option Nat) (b:Nat) (B:Bk) (s s':Rs),u.blocks[b]? =some B->Alike u as s s'->
  ((oA=none/\b=0/\s=xy u heap)\/∃(p:Nat) (P:Bk) (q m:Rs),oA=some p/\u.blocks[p]? =some P/\b∈P.next/\I p P.ef.length q/\Alike u as q m/\s = {q with steps:=q.steps+1}/\s' = {m with steps:=m.steps+1})->
  (runM u locals gS fuel Eu oA b s).As (runM (gZ u as) locals gS fuel Eu oA b s')
 |0,_,_,_,_,_,_,_,_=>trivial
 | Eu+1,oA,b,B,s,s',hB,ha,he=>by
   have S:=(iR.1 hB).1;have F:Alike u as (oi u locals oA B s) (oi (gZ u as) locals oA (mF u as B) s'):=by
     refine VN g hB ha λv k x j p a G hs N D r hp hq=>?_;rcases he with⟨y,_⟩|⟨O,P,q,m,y,h,C,z,H,rfl,rfl⟩
     ·rw[y]at r;cases r
     ·rw[y]at r
      cases r;exact OU g f W (s:=q) (s':=m) z H (HZ h (g.NX v b k x B G N D hB j a p hq hp)) (f.use v x N hs a (by
        unfold je;rw[if_pos D];exact A7 hq))
   have J:I b (B.ef.takeWhile (gR u)).length (oi u locals oA B s):=by
     rcases he with⟨rfl,rfl,rfl⟩|⟨O,P,q,m,rfl,h,C,z,H,rfl,rfl⟩
     ·exact W.start B hB
     ·exact W.NL O b P B q h hB C z H.len
   obtain ⟨_,T⟩:=TH (as:=as) g hB;have hlen:(B.ef.takeWhile (gR u)).length+(B.ef.dropWhile (gR u)).length=B.ef.length:=by
     rw[<-y6,wBD]
   have K:B.ef.drop (B.ef.takeWhile (gR u)).length=B.ef.dropWhile (gR u):=by
     have e:=wBD (p:=gR u) (l:=B.ef);generalize B.ef.takeWhile (gR u)=a at e⊢;generalize B.ef.dropWhile (gR u)=d at e⊢;rw[<-e];exact List.drop_left' rfl
   obtain⟨r1,U⟩:=Uf g f W DV (fuel:=fuel) hB _ _ _ _ K hlen (Ho g hB) J F;unfold runM;rw[hB,Jo hB];simp only;rw[T]
   cases hq:pB u gS fuel (B.ef.dropWhile (gR u)) (oi u locals oA B s)with
   | inl e=>
     simp only
     cases e with
     |zK=>exact trivial
     |stuck=>exact trivial
     | left n fr hp=>
       obtain⟨n',y,h⟩:=r1 n fr hp hq;rw[h]
       exact⟨y,rfl,rfl⟩
   | inr E=>
     obtain⟨o,y,h,C⟩:=U E hq;rw[y];simp only;have V:=h.steps;by_cases r:fuel<=E.steps
     ·rw[if_pos r];exact trivial
     rw[if_neg r,if_neg (show ¬fuel<=o.steps by omega)];show Ex.As (if B.fin=3 then _ else _) (if B.fin=3 then _ else _);by_cases c:B.fin=3
     ·rw[if_pos c,if_pos c]
      have L:B.state<u.eh.length:=by
        rcases g.fin b B hB with⟨z,_⟩|⟨z,_⟩|⟨_,_,z⟩
        ·omega
        ·omega
        ·exact z
      have A:=gP L;obtain⟨fr,X,Y⟩:=ML g f W C h (Yv hB c) A λw Q=>⟨HZ hB (g.Nt b B _ hB c A w Q),f.out b B _ hB c A w Q⟩
      rw[X,show(mF u as B).state=(CG u as).idxOf B.state from if_pos c,Y];exact⟨by omega,rfl,rfl⟩
     rw[if_neg c,if_neg c];have Z:D1 (mF u as B) o=D1 B E:=by
       unfold D1;show(if B.fin=1 then B.next[0]? else if B.fin=2 then(if o.of (if B.fin=2 then nm u as B.cond else B.cond)=0 then B.next[1]? else B.next[0]?) else none)=_;by_cases i:B.fin=2
       ·rw[if_pos i,if_pos i,if_pos i,OU g f W C h (HZ hB (g.NC b B hB i)) (f.cond b B hB i)]
       ·rw[if_neg i,if_neg i]
     rw[Z]
     cases hn:D1 B E with
     |none=>exact trivial
     | some t=>
       simp only;have R:t∈B.next:=by
         unfold D1 at hn
         repeat' split at hn
         all_goals first|exact A7 hn|cases hn
       have M:=g.nx b t (by unfold next;rw[hB];exact R);exact Wt Eu (some b) t _ _ _ (gP M) ⟨h.len,h.Ej,h.val,h.heap,by simp only;omega,h.polls⟩ (.inr ⟨b,B,E,o,rfl,hB,R,C,h,rfl,rfl⟩)
theorem YM{fuel:Nat} (Eu:Nat):(runM u locals gS fuel Eu none 0 (xy u heap)).As (runM (gZ u as) locals gS fuel Eu none 0 (xy (gZ u as) heap)):=by
 have a:(gZ u as).ef.length=(fI u as).length:=by
  show((fI u as).map _).length=_;rw[CD]
 refine Wt g f W DV Eu none 0 _ _ _ (gP (show 0<u.blocks.length from g.OC)) ⟨by simp[xy],by simp[xy,a],λv _=>?_,rfl,jj _,rfl⟩ (.inl ⟨rfl,rfl,rfl⟩);have e:∀n m,(List.replicate n (0:Int)).getD m 0=0:=λn m=>by
  rw[BO,Wb];split <;> rfl
 exact(e _ _).trans (e _ _).symm
end
open Dm
theorem UX{u:U} (g:Good u) {as:Nat->Int} (d:Ju u as) (a:∀v,u.ef.length<=v->as v = -1) (locals:List Int) (gS:Int) (fuel Eu:Nat) (heap:List Int) :
  (runM u locals gS fuel Eu none 0 (xy u heap)).As (runM (gZ u as) locals gS fuel Eu none 0 (xy (gZ u as) heap)):=by
 refine YM g (d.fit g a) (I:=λ_ _ _=>True) ⟨λ_ _=>trivial,λ_ _ _ _ _ _ _ _ _ _=>trivial,λ_ _ _ _ _ _ _ _ _ _ _ _=>trivial,λb k w r s _ _ hs e=>?_⟩ (λv x f hs=>?_) Eu
 ·obtain ⟨c,j,l,_⟩:=hs;rcases d w (g.mb _ _ _ l)with⟨m,_⟩|⟨m,_⟩
  ·obtain rfl:r=w:=by omega
   rfl
  ·omega
 ·have hv:=(iR.1 f).1;have i:¬Live u v:=λh=>by
   rcases d v hv with⟨e,_⟩|⟨_,h'⟩
   ·unfold stays at hs;rw[e,beq_self_eq_true]at hs;cases hs
   ·exact h' h
  refine⟨λe=>i (.root (.inl ⟨x,f,by omega⟩)),λe=>i (.root (.inl ⟨x,f,by omega⟩)),λe=>i (.root (.inl ⟨x,f,by omega⟩)),λe=>i (.root (.inl ⟨x,f,by omega⟩))⟩
structure zej (u:U) (as:Nat->Int) (hp:List Int) (b k:Nat) (s:Rs):Prop where
 heap:s.heap=hp
 eqn:∀(v:Nat) (x:Vl),u.ef[v]? =some x->Pu x.op=true->JH u v b k->s.of v=Fs x s.of hp
 same:∀v w:Nat,as v=(w:Int)->JH u v b k->s.of w=s.of v
open Dm
theorem Uc{l:List Nat} (b:l.Nodup) {n:Nat} (h:∀x,x∈l↔x<n):l.length=n:=by
 have d:=jK n l b λx a=>(h x).1 a;have c:=sub_le (List.range n) l List.nodup_range λx a=>(h x).2 (Sq.1 a);rw[Xe]at c;omega
theorem St{u:U} (g:Good u) {as:Nat->Int} (d:Ju u as) (m:∀i,i<u.ef.length->Live u i)
  (hs:∀s,s<u.eh.length->(∃(i:Nat) (x:Vl),u.ef[i]? =some x/\leaves x.op=true/\x.state=s)\/∃(b:Nat) (B:Bk),u.blocks[b]? =some B/\B.fin=3/\B.state=s) :
  (gZ u as).ef.length=u.ef.length/\(gZ u as).eh.length=u.eh.length:=by
 have st:∀v,v<u.ef.length->stays as v=true:=λv hv=>by
  rcases d v hv with⟨e,_⟩|⟨_,h⟩
  ·unfold stays;rw[e,beq_self_eq_true]
  ·exact absurd (m v hv) h
 have k:∀v,v∈fI u as↔v<u.ef.length:=λv=>by
  rw[iM g];exact⟨λh=>h.1,λh=>⟨h,st v h⟩⟩
 constructor
 ·show((fI u as).map _).length=_;rw[CD];exact Uc (yh g) k
 ·show ((CG u as).map _).length=_
  rw[CD];refine Uc (CX _) λs=>?_;show s∈kP (CO u as)↔_;rw[oQ];unfold CO;rw[BK,wB7,wB7];constructor
  ·rintro (⟨n,_,a⟩|⟨B,j,a⟩)
   ·cases f:u.ef[n]? with
    |none=>rw[f]at a;cases a
    | some x=>
      rw[f]at a;simp only at a;split at a
      ·rename_i c
       obtain rfl:=Option.some.inj a;exact g.leave n x f c
      ·cases a
   ·split at a
    ·rename_i l
     obtain rfl:=Option.some.inj a;obtain⟨b,o⟩:=mK.1 j;rcases g.fin b B o with⟨h,_⟩|⟨h,_⟩|⟨_,_,h⟩
     ·omega
     ·omega
     ·exact h
    ·cases a
  ·intro h
   rcases hs s h with⟨i,x,f,c,rfl⟩|⟨b,B,j,l,rfl⟩
   ·refine .inl ⟨i,(k i).2 (iR.1 f).1,?_⟩
    rw[f];simp only[if_pos c]
   ·exact .inr ⟨B,A7 j,by rw[if_pos l]⟩
