/- Parts. -/
import Derived.Test.YtloecllhljfidaaGreatDoorM28
import Derived.Test.YtloecllhljfidaaGreatDoorM36
set_option maxHeartbeats 4000000
namespace Go.Proofs.YtloecllhljfidaaGreatDoor.Hx
open Un Dm
def QuR(ty:Nat)(F:Nat->Prop)(h:Hp)(xs:List Nat)(v:V):Prop:=(v = .ei/\xs=[])\/∃t pre post,v = .slice t pre.length xs.length/\t<h.next/\¬F t/\h.get t=some (.cells ty 1 true false (pre++ig xs++post))/\gj pre=true/\gj post=true
def quP(ty:Nat)(xs:List Nat)(v:V):Pc where
 my:=Loc v
 ok F h:=QuR ty F h xs v
 Nn:=λ{F h} a l b=>by
  rcases a with⟨rfl,_⟩|⟨t,pre,post,rfl,c,d,_⟩
  ·exact b.elim
  simp_all
 fk:=λ{F h h'} a _ b f=>by
  rcases a with a|⟨t,pre,post,rfl,c,d,e,g⟩
  ·exact .inl a
  ·exact .inr ⟨t,pre,post,rfl,Ep c f,d,by simp_all,g⟩
 mono:=λ{F F' h} a _ b=>by
  rcases a with a|⟨t,pre,post,rfl,c,d,e⟩
  ·exact .inl a
  ·exact .inr ⟨t,pre,post,rfl,c,b t rfl,e⟩
def zdX:qf V where
 sz:=1
 rel _ _ n cs:=cs=[n]/\n.one=true
 len h:=by simp_all
 one h:=by simp_all
 fk _ h:=h
 mono _ h:=h
section
variable{F F':Nat->Prop}{h h':Hp}{cs:List Pc}{Q:fq}{u:U}{vv vb vs:V}
theorem Sw(xs:List Nat):(ig xs).length=xs.length:=Er ..
theorem Ef:∀xs,gj (ig xs)=true
 |[]=>rfl
 | x::xs=>by
   show gj (V.I (x:Nat)::ig xs)=true;rw[eQ,Ef xs];rfl
theorem SC(xs ys:List Nat):ig (xs++ys)=ig xs++ig ys:=Mw ..
theorem ev.zgy(H:ev F h cs)(i:Nat){ty:Nat}{xs:List Nat}{v:V}(hi:cs[i]? =some (quP ty xs v)):fE v=some (.I xs.length):=by
 rcases H.ok i _ hi with⟨rfl,rfl⟩|⟨t,pre,post,rfl,_⟩ <;> rfl
theorem ev.zgv(H:ev F h cs)(i:Nat){ty x:Nat}{xs:List Nat}{v:V}(hi:cs[i]? =some (quP ty (x::xs) v)) :
  ∃l o b,gB 1 v (.I 0)=some (.ptr l o)/\fe (.ptr l o) h=some (.I x)/\iY 1 v (some (.I 1)) none h=some b/\ev F h (cs.set i (quP ty xs b)):=by
 rcases H.ok i _ hi with⟨_,a⟩|⟨t,pre,post,rfl,a,d,c,e,f⟩
 ·cases a
 ·refine⟨t,pre.length+0*1,.slice t (pre.length+1*1) ((x::xs).length-1),by rfl,kP c ?_,?_,H.swap hi (.inr ⟨t,pre++[V.I x],post,?_,a,d,?_,?_,f⟩) λ_ h=>h⟩
  ·rw[Pr,Nat.zero_mul,Nat.add_zero,wAy (iZ _),Nat.sub_self];rfl
  ·unfold iY ko;simp only[c,ft,HH];rw[show hbound 0 (some (V.I 1))=some 1 from rfl,ft,mI _ (YH _),mI _ (by rfl),mI _ (by simp_all)];rfl
  ·simp
  ·grind[ig]
  ·rw[oT,e];rfl
theorem ev.zfw(H:ev F h cs)(i:Nat){ty jL GA y:Nat}{ro:Bool}{xs:List Nat}{v:V}(hi:cs[i]? =some (quP ty xs v))(hb:jL<=1000)(o:xs.length<1000000) :
  ∃c h',fi ty 1 jL v (.slice h.next 0 1) (h.new (.cells GA 1 true ro (ig [y])))=some (.val c h')/\h.next+1<=h'.next/\ev F h' (cs.set i (quP ty (xs++[y]) c))/\Sn F h F h':=by
 let⟨e,q⟩:=H.grow (lP.new h (.cells GA 1 true ro (ig [y])))
 have hx:kX (h.new (.cells GA 1 true ro (ig [y]))) 1 (.slice h.next 0 1)=some (1,ig [y]):=mU rfl;have G:(h.new (.cells GA 1 true ro (ig [y]))).next=h.next+1:=rfl;have hq:=e.ok i _ hi;generalize h.new (.cells GA 1 true ro (ig [y]))=b at*;have r:(xs.length+1)*jL<=1000000*1000:=Nat.mul_le_mul (by omega) hb;have g:∃c h',fi ty 1 jL v (.slice h.next 0 1) b=some (.val c h')/\QuR ty F h' (xs++[y]) c/\lP (Loc v) b h'/\∀t,Loc c t->Loc v t\/b.next<=t:=by
  rcases hq with⟨rfl,rfl⟩|⟨t,pre,post,rfl,f,s,l,u,I⟩
  ·refine⟨.slice b.next 0 1,b.new (.cells ty 1 true false (ig [y])),?_,.inr ⟨b.next,[],[],rfl,Pf _,λj=>wBc _ (e.fl _ j),fm _ _,rfl,rfl⟩,lP.new _ _,by simp_all⟩;unfold fi;simp only[hx,ft];show bB (gj (ig [y])) _=_;rw[mI _ (Ef _),mI _ (by grind[VK]),mI _ (by rfl)]
  ·have m:(pre++ig xs++post).length=pre.length+xs.length+post.length:=by rw[Lw,Lw,Sw]
   cases post with
   | nil =>
     refine⟨.slice b.next 0 (xs.length+1),(b.put t (.cells ty 1 false false (pre++ig xs++[]))).new (.cells ty 1 true false (ig xs++ig [y])),?_,.inr ⟨b.next,[],[],by simp,Pf _,λj=>wBc _ (e.fl _ j),?_,rfl,rfl⟩,(lP.put _ rfl f).trans (lP.new _ _),by simp_all⟩
     ·unfold fi ko
      have d:sub (pre++ig xs++[]) pre.length (Nat.mul xs.length 1)=some (ig xs):=by
        show sub (pre++ig xs++[]) pre.length (xs.length*1)=_;rw[EN (by omega),Lg,List.drop_left,wAz (by simp_all)]
      have a:Nat.ble (Nat.add pre.length (Nat.mul (Nat.add xs.length 1) 1)) (pre++ig xs++[]).length=false:=by
        rw[wBg];intro w;have:=MY w;rw[m]at this;have k:Nat.add pre.length (Nat.mul (Nat.add xs.length 1) 1)=pre.length+(xs.length+1)*1:=rfl;rw[k]at this;simp at this;omega
      simp only[hx,ft];show bB (gj (ig [y])) _=_;rw[mI _ (Ef _)];simp only[l,ft,d,Ef];rw[mI _ (by rfl),mI _ (by rfl),mI _ (YH _),a];simp only[G2];rw[mI _ (by grind[VK]),mI _ (by grind[VK])]
     ·simp[Lg,UA,SC]
      exact fm (b.put t _) _
   | cons p post=>
     refine⟨.slice t pre.length (xs.length+1),b.put t (.cells ty 1 true false (pre++ig (xs++[y])++post)),?_,.inr ⟨t,pre,post,by simp,f,s,fY _ f,u,?_⟩,lP.put _ rfl f,by simp_all⟩
     ·unfold fi ko
      have a:Nat.ble (Nat.add pre.length (Nat.mul (Nat.add xs.length 1) 1)) (pre++ig xs++p::post).length=true:=by
        refine VK ?_;show pre.length+(xs.length+1)*1<=_;rw[m,VS];omega
      have x:qB (Nat.add pre.length (Nat.mul xs.length 1)) (pre++ig xs++p::post) (ig [y])=some (pre++ig (xs++[y])++post):=by
        have z:(ig [y]).length=1:=rfl;have k:(pre++ig xs).length=pre.length+xs.length:=by rw[Lw,Sw]
        rw[show Nat.add pre.length (Nat.mul xs.length 1)=pre.length+xs.length by simp_all,Ar (by simp_all),z];congr 1;rw[<-k,List.take_left,SC,<-wBr,List.drop_left];simp
      simp only[hx,ft];show bB (gj (ig [y])) _=_;rw[mI _ (Ef _)];simp only[l,ft];rw[mI _ (by rfl),mI _ (by rfl),mI _ (YH _),a]
      simp_all
     simp_all
 let⟨c,h',A,B,n,C⟩:=g
 let⟨D,E⟩:=e.Au (p:=quP ty (xs++[y]) c) hi n B C
 exact⟨c,h',A,by have:=n.next;omega,D,q.trans E⟩
theorem MI{a n:Nat}(b:a<n)(H:Q (.bool true) h):cP CS gM [.I a,.I n] h Q:=by
 refine IE ?_;refine eh (nW ..) ?_;simp only[ft,j7];rw[ JO (show(a:Int)<(n:Nat) by omega)];exact H
theorem Vf{op:Nat}(H:Q (.bool (Jk op)) h):cP CS j6 [.I op] h Q:=by
 refine EX ?_;refine eh (j7 ..) ?_;simp[ gR];have e:(decide ((op:Int)<19) ||((op:Int) == 21))=Jk op:=by
  unfold Jk;rw[show((op:Int) == 21)=(op == 21) from ieq _ 21];congr 1;rw[decide_eq_decide];omega
 rw[e];exact H
theorem il.zeR{fs:List Fm}{f:V}(a:il eF F h fs f){i:Nat}{x:Fm}(hx:fs[i]? =some x) :
  ∃l o a b,F l/\gB 4 f (.I i)=some (.ptr l o)/\fe (.ptr l (o+2)) h=some a/\fe (.ptr l (o+3)) h=some b/\il eN F h x.locals a/\il eN F h x.stack b:=by
 obtain⟨hi,rfl⟩:=jo.1 hx;obtain⟨l,o,w,d,e,k,⟨a,b,rfl,g,j⟩,c⟩:=a.ix hi .i64;exact⟨l,o,a,b,d,e,c 2 a rfl,c 3 b rfl,g,j⟩
theorem Fp:∀{fs:List Fm},(∀f∈fs,f.locals.length<=40/\f.stack.length<=60)->(gL fs).length<=fs.length*100
 |[],_=>by simp[gL]
 | f::fs,hf=>by
   have a:=Fp (fs:=fs) (by simp_all)
   grind[gL]
theorem Qe{fs:List Fm}{f:V}(B:ev F h cs)(hs:il eF F h fs f)(i:fs.length<=30/\∀f∈fs,f.locals.length<=40/\f.stack.length<=60)
  (H:∀F' h' v,Sn F h F' h'->ev F' h' cs->il eN F' h' (gL fs) v->Q v h'):cP CS lW [.agg [f]] h Q:=by
 refine Dc ?_;refine j4 B (by simp only[eQ,hs.one];rfl) λt m u=>?_;generalize h.next=n at*;have m:ev F t (fg eN eR [] .ei::eJ n 52 [f]::cs):=m.add .nil λ_ h=>h
 refine AP (λk l h'=>∃j v,l=[.ptr n 0,v,.I (j:Nat)]/\j+k=fs.length/\Sn F t F h'/\ev F h' (fg eN eR (gL (fs.take j)) v::eJ n 52 [f]::cs)) ?_ (k:=fs.length)
  ⟨0,_,rfl,by omega,Sn.refl _ _,m⟩
 rintro k _ v _ C ⟨j,_,⟨⟩,hk,p,b⟩;unfold sh;have e:=(hs.since u).since p;refine eh (by rfl) (eh (b.ld 1 rfl rfl) (eh e.len ?_));by_cases hj:j<fs.length;rotate_left
 ·refine hY ?_;rw[wAz (by omega)]at b
  let⟨d,g,D⟩:=b.jc 0 rfl
  simp[oU]at d;exact H _ _ _ ((u.trans p).trans g) d.tail.tail D
 refine gy ?_
 let⟨l,o,a,c,hl,w,E,x,ia,ic⟩:=e.zeR (gN hj)
 let⟨f1,f2⟩:=i.2 _ (zI hj)
 have hlen:=Fp (fs:=fs.take j) λf G=>i.2 f (wBt G);rw[Pw]at hlen;have q:(gL (fs.take j)).length<=3000:=by
  have:=i.1;have:min j fs.length<=30:=by omega
  omega
 refine eh (by rfl) (eh (b.ld 1 rfl rfl) (eh w (eh (by rfl) (eh E (eh (by rfl) (eh (b.ld 1 rfl rfl) (eh w (eh (by rfl) (eh x ?_)))))))))
 let⟨y,z,I,n3,d,g⟩:=b.OV 0 rfl (jL:=8) ia (by decide) (by decide) (by omega)
 have r:fi 3 1 8 v a C=some (.val y z):=I;rw[r,en];simp[oU]at d;refine⟨n3,ij x (g.fk _ hl),d.ld 1 rfl rfl,?_⟩
 let⟨A,J,K,L,M,s4⟩:=d.OV 0 rfl (jL:=8) (ic.since g) (by decide) (by decide) (by grind)
 have s:fi 3 1 8 y c z=some (.val A J):=K;rw[s,en];simp[oU]at M;refine⟨L,fF ⟨k-1,by omega,j+1,A,rfl,by omega,(p.trans g).trans s4,?_⟩⟩
 grind[gL,M4]
theorem za9{xs:List Nat}{a b:V}(c:il eN F h xs a)(hb:il eN F h xs b)(j:xs.length<1000000000)(H:Q (.bool true) h):cP CS qC [a,b] h Q:=by
 refine Ga ?_;refine eh c.len (eh hb.len (yq (fW rfl ?_)));refine Co (λk l h'=>∃i,l=[a,b,.I (i:Nat)]/\i+k=xs.length/\h' = h) ?_ (k:=xs.length) (by simp_all);rintro k _ _ _ h' ⟨i,⟨⟩,hk,rfl⟩;unfold vF;refine eh c.len ?_;by_cases hi:i<xs.length
 ·refine gy ?_
  let⟨l,o,_,d,e⟩:=c.nat (gN hi) .i64
  let⟨l',o',_,f,g⟩:=hb.nat (gN hi) .i64
  refine eh d (eh e (eh f (eh g (yq (fW rfl ?_)))));exact fF ⟨k-1,by omega,i+1,rfl,by omega,rfl⟩
 ·exact hY H
theorem zaG(g:Good u)(I:ev F h cs)(m:tL F h u vv vb vs)(H:∀F' h' v,Sn F h F' h'->ev F' h' cs->il (eL eN) F' h' ((List.range u.blocks.length).map (Un.ahead u)) v->Q v h') :
  cP CS pS [.agg (uC u vv vb vs)] h Q:=by
 refine Fa ?_;have nb:=g.nb;refine j4 I m.one λa t w=>?_;generalize h.next=lu at*;refine oF (t.ld 0 rfl rfl) (eh (m.since w).b.len ?_);rw[jE rfl (by decide) (by omega),fu];obtain⟨x,J⟩:=t.R0 u.blocks.length;have n:List.replicate u.blocks.length ([]:List Nat)=(List.range u.blocks.length).map (iH u 0 0):=by
  refine wBy (by simp) λi a K=>?_;simp[Kz]
 rw[n]at x
 refine BA (λk l h'=>∃i ds,l=[.ptr lu 0,.slice a.next 0 u.blocks.length,.I (i:Nat)]/\i+k=u.blocks.length/\Sn F h F h'/\
  ev F h' (B3 eN iU eR ((List.range u.blocks.length).map (iH u i 0)) (.slice a.next 0 u.blocks.length) ds::eJ lu 30 (uC u vv vb vs)::cs)) ?_ (k:=u.blocks.length) ⟨0,_,rfl,by omega,w.trans J,x⟩
 rintro k _ _ _ L ⟨i,ds,⟨⟩,hk,y,z⟩;unfold ti;refine oF (z.ld 1 rfl rfl) (eh (m.since y).b.len ?_);by_cases hi:i<u.blocks.length;rotate_left
 ·refine hY ?_;obtain rfl:i=u.blocks.length:=by omega
  let⟨M,N,s4,A⟩:=z.Rh 0 rfl
  have e:(List.range u.blocks.length).map (iH u u.blocks.length 0)=(List.range u.blocks.length).map (Un.ahead u):=by
   refine(by grind[Ym,pM])
  rw[e]at A;exact H M L _ (y.trans s4) N.tail.tail A
 refine gy ?_;obtain⟨B,o⟩:∃B,u.blocks[i]? =some B:=by simp_all
 have O:=Dh g o
 refine BF (λk l h'=>∃j ds,l=[.ptr lu 0,.slice a.next 0 u.blocks.length,.I i,.I (j:Nat)]/\
  j+k=B.next.length/\Sn F h F h'/\ev F h' (B3 eN iU eR ((List.range u.blocks.length).map (iH u i j)) (.slice a.next 0 u.blocks.length) ds::eJ lu 30 (uC u vv vb vs)::cs)) ?_ (k:=B.next.length)
  (by grind)
 rintro P _ _ _ _ C ⟨j,c,⟨⟩,R,p,q⟩;unfold tw
 let⟨Z,o7,bv,bn,bp,_,D,_,_,iN,_,E⟩:=(m.since p).nJ o
 refine oF (q.ld 1 rfl rfl) (eh D (oF E.next (eh iN.len ?_)));by_cases hj:j<B.next.length;rotate_left
 ·refine hY ?_;obtain rfl:j=B.next.length:=by omega
  refine fF ⟨k-1,by omega,i+1,c,rfl,by omega,p,?_⟩;have e:(List.range u.blocks.length).map (iH u (i+1) 0)=(List.range u.blocks.length).map (iH u i B.next.length):=by grind[Ym,Ls]
  grind
 refine gy ?_
 let⟨l8,o8,_,S,T⟩:=iN.nat (gN hj) .i64
 have r:B.next[j]<u.blocks.length:=g.nx i _ (by grind[next,zI]);have f:B.next[j]<((List.range u.blocks.length).map (iH u i j)).length:=by simpa using r
 obtain ⟨l,d,d',U,h7,hd,hl,G,V,W,e4,X,e6,H7,Y⟩:=q.Ri 0 rfl f (jL:=8) rfl (by decide) (by decide) (by
  grind[pP])
 refine oF (q.ld 1 rfl rfl) (eh D (oF E.next (eh S (eh T (eh G (eh V ?_))))));rw[mH,fu];have s:fi 3 1 8 d (.slice C.next 0 1) (C.new (.cells 3 1 true false (ig [i])))=some (.val d' U):=W;rw[s,en];refine eh G ?_;rw[X,en];refine fF ⟨P-1,by omega,j+1,c.set (B.next[j]) d',rfl,by omega,p.trans Y,?_⟩;have e:((List.range u.blocks.length).map (iH u i j)).set (B.next[j]) (((List.range u.blocks.length).map (iH u i j))[B.next[j]]'f++[i])=(List.range u.blocks.length).map (iH u i (j+1)):=by
  refine wBy (by simp) λb a K=>?_;rw[List.getElem_set];simp[List.getElem_map,List.getElem_range];rw[Kq o (gN hj)];by_cases eb:B.next[j]=b
  ·simp_all
  ·grind
 simp_all
end
open Un Dm
section
variable{F F':Nat->Prop}{h h':Hp}{cs:List Pc}{Q:fq}{u:U}{vv vb vs nv:V}{Zq:List (List Nat)}
structure Nxs (n:Nat) (nx:Nat->List Nat) (Zq:List (List Nat)):Prop where
 n0:0<n
 n3:n<=300
 len:Zq.length=n
 at_:∀b,b<n->Zq[b]? =some (nx b)
 two:∀b,b<n->(nx b).length<=2
 lt:∀b,b<n->∀t∈nx b,t<n
theorem O0{n:Nat}{nx:Nat->List Nat}(w:Nxs n nx Zq)(FJ:Int)(T:ev F h cs)(hs:il (eL eN) F h Zq nv)
  (H:∀h' v seen,Sn F h F h'->ev F h' (fg eB jZ seen v::cs)->seen.length=n->(∀b,seen[b]? =some true↔VV nx FJ b)->Q v h') :
  cP CS lE [nv,.I 0,.I FJ] h Q:=by
 refine Cv ?_;have n0:=w.n0;have n3:=w.n3;refine eh hs.len ?_;rw[w.len,jE rfl (by decide) (by omega),fu];obtain⟨M,N⟩:=T.make (E:=eB) n rfl rfl;generalize h.new (.cells jZ 1 true false (List.replicate n (V.bool false)))=U at*;generalize h.next=o at*;by_cases hb:FJ=0
 ·refine fX (fW hb.symm (H U _ _ N M Wt λb=>⟨λh=>?_,by grind[Yy]⟩))
  grind
 refine fX (fP (by omega) ?_);obtain⟨l2,o2,q,X,Y,_,O,Z⟩:=M.IH 0 rfl (k:=0) (by simp_all) rfl rfl rfl;refine eh X ?_;rw[Y,en];have ep:iS 3 1 1 (V.I 0) [(0,V.I 0)]=some (.cells 3 1 true false (ig [0]),λl=> .slice l 0 1):=rfl;rw[ep,fu]
 have z:ev F (q.new (.cells 3 1 true false (ig [0]))) (quP eR [0] (.slice q.next 0 1)::fg eB jZ ((List.replicate n false).set 0 true) (.slice o 0 n)::cs)/\Sn F q F (q.new (.cells 3 1 true false (ig [0]))):=
  O.new _ (.inr ⟨q.next,[],[],rfl,Pf _,O.fresh,fm _ _,rfl,rfl⟩) λl e=>e.symm
 let⟨z,s3⟩:=z
 have A:=(N.trans Z).trans s3
 refine Ak (λk l h'=>∃seen todo p,l=[nv,.I FJ,.slice o 0 n,p]/\k=todo.length+seen.count false/\Sn F h F h'/\Wo n nx FJ none seen todo/\ev F h' (quP eR todo p::fg eB jZ seen (.slice o 0 n)::cs)) ?_
  ⟨_,_,_,rfl,rfl,A,Wo.start n0 hb,z⟩
 rintro k _ _ _ p h4 ⟨seen,todo,_,⟨⟩,hk,s4,W,B⟩;unfold qU;refine eh (B.zgy 0 rfl) ?_
 cases todo with
 | nil=>
   refine AQ (fP (by simp) ?_)
   exact H h4 _ seen s4 B.tail W.len W.iff
 | cons b todo=>
   refine AQ (fW (by simp_all) ?_)
   let⟨la,oa,tv2,x1,x2,x3,H5⟩:=B.zgv 0 rfl
   refine eh x1 (eh x2 (eh x3 ?_))
   let⟨W5,DC⟩:=W.pop
   have i:b<n:=by
     have:=(jo.1 (W.work b (by simp))).1;rw[W.len]at this;exact this
   have aa:=w.two b i
   refine Af (λu l h'=>∃j a d p,l=[nv,.I FJ,.slice o 0 n,p,.I (b:Nat),.I (j:Nat)]/\j+u=(nx b).length/\d.length+a.count false+1<=k/\Sn F h F h'/\Wo n nx FJ (some (b,j)) a d/\ev F h' (quP eR d p::fg eB jZ a (.slice o 0 n)::cs)) ?_ (k:=(nx b).length)
     (by grind)
   rintro u _ _ _ r _ _ h6 ⟨j,f,g,_,⟨⟩,ab,C,x,s,y⟩;unfold qM
   let⟨lb,ob,wb,_,P,R,wr⟩:=(hs.since x).list (w.at_ b i) .i64
   refine eh P (eh R (eh wr.len ?_));by_cases hj:j<(nx b).length
   ·refine gy ?_
    have ht:=gN hj;have ac:=w.lt b i _ (zI hj);generalize (nx b)[j]=t at*
    let⟨lc,oc,_,z1,z2⟩:=wr.nat ht .i64
    refine eh P (eh R (eh z1 (eh z2 (eh (vf ..) ?_))));have oS:=s.len;obtain⟨c,hc⟩:∃c,f[t]? =some c:=by simp_all
    let⟨ld,od,q1,q2⟩:=y.Jr 1 rfl hc .i64
    rw[show jI (.bool ((t:Int) != FJ)) (oB (some (V.slice o 0 n)) λD=>oB (some (V.I (t:Nat))) λG=>oB (gB 1 D G) λI=>oB (fe I h6) λJ=>pK .not J)=some (.bool (((t:Int) != FJ)&&!c)) from by
      simp_all]
    rw[iQ];refine iB ?_;have ad:=s.less;by_cases cnd:(t:Int)≠FJ/\c=false
    ·refine fW (by simp_all) ?_
     rw[cnd.2]at hc;obtain⟨le,oe,h7,e7,e8,_,S,s7⟩:=y.IH 1 rfl (k:=t) (by omega) rfl rfl rfl;refine eh e7 ?_;rw[e8,en];simp[ pJ]at S;rw[mH,fu];obtain⟨K,h8,e9,_,H8,s8⟩:=S.zfw 0 rfl (jL:=8) (by decide) (by omega);have L:=e9;rw[L,en];refine qj ?_;unfold mj;refine ka (m:=1) (by omega) (by omega) ⟨u-1,by omega,j+1,_,_,K,rfl,by omega,?_,(x.trans s7).trans s8,s.push ht DC cnd.1 hc,H8⟩
     grind
    ·refine fP (λh=>cnd ?_) ?_
     ·simp_all
     refine qj ?_;unfold mj;refine ka (m:=1) (by omega) (by omega) ⟨u-1,by omega,j+1,_,_,r,rfl,by omega,C,x,s.skip ht ?_,y⟩
     grind
   ·refine hY ?_
    obtain rfl:j=(nx b).length:=by omega
    exact⟨g.length+f.count false,by omega,f,g,r,rfl,rfl,x,s.next,y⟩
theorem zao:(zdX).rel F h .ei [.ei]:=⟨rfl,rfl⟩
def zfL(n:Nat)(nx:Nat->List Nat)(Pe:List (List Bool)):Prop:=Pe.length=n/\∀a,a<n->∃row,Pe[a]? =some row/\row.length=n/\∀b,b<n->(row[b]? =some true↔mz nx a b)
theorem za7{n:Nat}{nx:Nat->List Nat}(w:Nxs n nx Zq)(N:ev F h cs)(hs:il (eL eN) F h Zq nv)
  (H:∀F' h' v Pe,Sn F h F' h'->ev F' h' cs->il (eL eB) F' h' Pe v->zfL n nx Pe->Q v h') :
  cP CS qJ [nv,.I 0] h Q:=by
 refine Gt ?_;have n3:=w.n3;refine eh hs.len ?_;rw[w.len,jE rfl (by decide) (by omega),fu];obtain⟨O,P⟩:=N.make n zao rfl;generalize h.next=q at*
 refine CX (λk l h'=>∃F' a ds Pe,l=[nv,.I 0,.slice q 0 n,.I (a:Nat)]/\a+k=n/\Sn F h F' h'/\ev F' h' (fg zdX WI ds (.slice q 0 n)::cs)/\ds.length=n/\Pe.length=n/\
   ∀c,c<a->∃row d,Pe[c]? =some row/\ds[c]? =some d/\il eB F' h' row d/\row.length=n/\∀b,b<n->(row[b]? =some true↔mz nx c b)) ?_ (k:=n)
  ⟨F,0,_,List.replicate n [],rfl,by omega,P,O,Wt,Wt,by omega⟩
 rintro k _ _ _ _ D ⟨r,a,ds,Pe,⟨⟩,hk,s,G,R,oS,f⟩;unfold uM;refine eh (hs.since s).len ?_;rw[w.len];by_cases ha:a<n;rotate_left
 ·refine hY ?_;obtain rfl:a=n:=by omega
  let⟨x,j,S⟩:=G.jc 0 rfl
  refine H _ D _ Pe (s.trans j) x.tail (S.Wb rfl (by simp_all) (by omega) λc d row ws T I U=>?_) ⟨oS,λc hc=>?_⟩
  ·have y:=(jo.1 I).1
   let⟨row',d',g,i,z,_⟩:=f c (by omega)
   rw[T]at i;rw[I]at g;cases g;cases i;obtain⟨rfl,_⟩:=U;exact⟨d,rfl,z.mono j.mono⟩
  grind
 refine gy ?_;refine O0 w (a:Nat) G (hs.since s) λJ sv seen j x W X=>?_;have m:=s.trans j;refine eh (hs.since m).len ?_;rw[w.len,jE rfl (by decide) (by omega),fu];obtain⟨Y,s4⟩:=x.make (E:=eB) n rfl rfl;generalize J.new (.cells jZ 1 true false (List.replicate n (V.bool false)))=h4 at*;generalize J.next=lr at*
 let⟨l5,o5,h5,g,i,_,Z,K⟩:=Y.IH 2 rfl (k:=a) (u:=V.slice lr 0 n) (by omega) rfl rfl ⟨rfl,rfl⟩
 refine eh g ?_;rw[i,en];simp[ pJ]at Z;have aa:=(m.trans s4).trans K;have ab:=(j.trans s4).trans K
 refine CZ (λA l h'=>∃b cur,l=[nv,.I 0,.slice q 0 n,.I a,sv,.I (b:Nat)]/\b+A=n/\Sn F h r h'/\Sn r D r h'/\cur.length=n/\(∀c,c<b->(cur[c]? =some true↔mz nx a c))/\
   ev r h' (fg eB jZ cur (.slice lr 0 n)::fg eB jZ seen sv::fg zdX WI (ds.set a (.slice lr 0 n)) (.slice q 0 n)::cs)) ?_ (k:=n)
  (by grind)
 rintro A _ _ _ _ _ _ h6 ⟨b,cur,⟨⟩,ac,B,o,y,L,t⟩;unfold uZ;refine eh (hs.since B).len ?_;rw[w.len];by_cases hb:b<n
 ·refine gy ?_
  let⟨lx,ox,dx,x1,x2,M⟩:=t.Wd 2 rfl (k:=a) (by simp_all) .i64 rfl
  have hg:(ds.set a (V.slice lr 0 n))[a]'(by simp_all)=V.slice lr 0 n:=List.getElem_set_self _;rw[hg]at M;obtain rfl:dx=V.slice lr 0 n:=by have:=M.1;simp_all
  obtain⟨c,hc⟩:∃c,seen[b]? =some c:=by simp_all
  let⟨ly,oy,y1,y2⟩:=t.Jr 1 rfl hc .i64
  refine eh x1 (eh x2 (eh y1 (eh y2 (QM ?_))));obtain⟨lz,oz,h7,z1,z2,zn,C,p⟩:=t.IH 0 rfl (k:=b) (by omega) rfl rfl rfl;refine eh z1 ?_;rw[z2,en];refine⟨zn,fF ⟨A-1,by omega,b+1,_,rfl,by omega,B.trans p,o.trans p,by simp_all,λe he=>?_,C⟩⟩
  grind[MR,XD]
 ·refine hY ?_;obtain rfl:b=n:=by omega
  let⟨C,p,r7⟩:=t.jc 0 rfl
  refine fF ⟨k-1,by omega,_,a+1,_,Pe.set a cur,rfl,by omega,B.trans p,C.tail.tail,by simp_all,by simp_all,λc hc=>?_⟩;by_cases e:c=a
  ·simp_all
  ·rw[I9 (by omega),I9 (by omega)]
   let⟨row,d,g,i,z,e4⟩:=f c (by omega)
   exact⟨row,d,g,i,(z.since o).since p,e4⟩
structure zdk (u:U) (nJ JC:List Nat) (Pe:List (List Bool)):Prop where
 at_:∀v b k,At u v b k->nJ[v]? =some b/\JC[v]? =some k
 Uz:zfL u.blocks.length (next u) Pe
def Xl(u:U)(vv vb vs wb wp wd:V):List V:=[.I u.func,.I u.pc,vv,vb,vs,wb,wp,wd]
variable{nJ JC:List Nat}{Pe:List (List Bool)}{wb wp wd:V}
theorem Io(o:zdk u nJ JC Pe)(z:ev F h cs)(i:tL F h u vv vb vs)(hb:il eN F h nJ wb)(hp:il eN F h JC wp)(y:il (eL eB) F h Pe wd){a b k c j:Nat}(e:At u a c j)(l:b<u.blocks.length)(hs:c=b/\j<k\/c≠b/\mz (next u) c b)
  (H:∀h',Sn F h F h'->ev F h' cs->Q (.bool true) h'):cP CS iC [.agg (Xl u vv vb vs wb wp wd),.I a,.I b,.I k] h Q:=by
 refine zB ?_
 let⟨A,C⟩:=o.at_ a c j e
 refine j4 z (by simp only[Xl,eQ,i.v.one,i.b.one,i.s.one,hb.one,hp.one,y.one];rfl) λd f g=>?_;generalize h.next=lx at*
 let⟨l1,N,_,D,E⟩:=(hb.since g).nat A .i64
 let⟨l2,O,_,P,R⟩:=(hp.since g).nat C .i64
 have G:fe (.ptr lx (0+5)) d=some wb:=f.ld 0 rfl rfl;have S:fe (.ptr lx (0+6)) d=some wp:=f.ld 0 rfl rfl;have T:fe (.ptr lx (0+7)) d=some wd:=f.ld 0 rfl rfl;have m:c<u.blocks.length:=by
  let⟨B,hB,_⟩:=e
  exact by grind
 let⟨row,I,U,J⟩:=o.Uz.2 c m
 let⟨l3,W,d3,_,z1,z2,z3⟩:=(y.since g).list I .i64
 have hq:=H d g f.tail;refine eh (by rfl) (eh G (eh D (eh E (eh (gR ..) ?_))));rw[show jI (.bool ((c:Int) == (b:Int))) (oB (fI 6 (V.ptr lx 0)) λn=>oB (fe n d) λp=>oB (some (V.I a)) λq=>oB (gB 1 p q) λr=>oB (fe r d) λt=>oB (some (V.I k)) λw=>ez .lss 3 t w)=some (.bool (((c:Int) == (b:Int))&&decide ((j:Int)<k))) from by
  simp_all]
 rw[iQ];rcases hs with⟨rfl,K⟩|⟨K,L⟩
 ·rw[show(((c:Int) == (c:Int))&&decide ((j:Int)<k))=true by rw[vU];exact⟨by simp,JO (by omega)⟩];exact eh rfl hq
 ·have x:=(J b l).2 L
  let⟨l4,X,_,Y,Z⟩:=z3.bool x .i64
  rw[show(((c:Int) == (b:Int))&&decide ((j:Int)<k))=false by grind];have M:((c:Int) != (b:Int))=true:=by rw[wB2];omega
  refine eh ?_ hq
  simp_all
theorem QD(o:zdk u nJ JC Pe)(g:Good u)(B:ev F h cs)(e:tL F h u vv vb vs)(hb:il eN F h nJ wb)(hp:il eN F h JC wp)(x:il (eL eB) F h Pe wd){s b k:Nat}{fs:List Fm}(a:u.eo[s]? =some fs)(p:b<u.blocks.length)(hs:∀w∈gL fs,∃c j,At u w c j/\(c=b/\j<k\/c≠b/\mz (next u) c b))
  (H:∀F' h',Sn F h F' h'->ev F' h' cs->Q (.bool true) h'):cP CS jM [.agg (Xl u vv vb vs wb wp wd),.I s,.I b,.I k] h Q:=by
 refine zy ?_;refine j4 B (by simp only[Xl,eQ,e.v.one,e.b.one,e.s.one,hb.one,hp.one,x.one];rfl) λR y z=>?_;generalize h.next=lx at*;have u1:=e.since z
 let⟨l1,S,f,_,C,D,_,xf⟩:=u1.st a
 refine eh (by rfl) (eh (by rfl) (eh (y.ld 0 rfl rfl) (eh C (eh D ?_))));refine Qe y xf (by grind[EC]) λm E G I J K=>?_;have L:=Fp (EC g s fs a).2;have:=(EC g s fs a).1;have q:=z.trans I
 refine yg (λr l h'=>∃i,l=[.I b,.I k,.ptr lx 0,G,.I (i:Nat)]/\i+r=(gL fs).length/\Sn F h m h'/\Sn m E m h'/\ev m h' (eJ lx _ (Xl u vv vb vs wb wp wd)::cs)) ?_ (k:=(gL fs).length)
  ⟨0,rfl,by omega,q,Sn.refl _ _,J⟩
 rintro r _ _ _ _ _ M ⟨i,⟨⟩,hk,d,n,t⟩;unfold oW;have A:=K.since n;refine eh A.len ?_;by_cases hi:i<(gL fs).length
 ·refine gy ?_;have hx:=gN hi
  let⟨c,j,AE,hs2⟩:=hs _ (zI hi)
  let⟨l4,T,_,N,O⟩:=A.nat hx .i64
  refine eh (t.mY 0 rfl rfl) (eh N (eh O ?_));refine Io o t (e.since d) (hb.since d) (hp.since d) (x.since d) AE p hs2 λU s4 P=>?_;refine⟨s4.next,pY (fW rfl ?_)⟩;exact fF ⟨r-1,by omega,i+1,rfl,by omega,d.trans s4,n.trans s4,P⟩
 ·exact hY (H m M d t.tail)
end
