/- Parts. -/
import Derived.Test.YtbdcpiokodljaaaGreatDoorM28
import Derived.Test.YtbdcpiokodljaaaGreatDoorM36
set_option maxHeartbeats 4000000
namespace Go.Proofs.YtbdcpiokodljaaaGreatDoor.Hx
open Un Dm
def QuR(ty:Nat)(F:Nat->Prop)(h:Hp)(xs:List Nat)(v:V):Prop:=(v = .ee/\xs=[])\/∃t pre post,v = .slice t pre.length xs.length/\t<h.next/\¬F t/\h.get t=some (.cells ty 1 true false (pre++gZ xs++post))/\gv pre=true/\gv post=true
def quP(ty:Nat)(xs:List Nat)(v:V):Pc where
 mM:=Loc v
 ok F h:=QuR ty F h xs v
 Pl:=λ{F h} a l b=>by
  rcases a with⟨rfl,_⟩|⟨t,pre,post,rfl,c,d,_⟩
  ·exact b.elim
  simp_all
 fi:=λ{F h h'} a _ b f=>by
  rcases a with a|⟨t,pre,post,rfl,c,d,e,g⟩
  ·exact .inl a
  ·exact .inr ⟨t,pre,post,rfl,ET c f,d,by simp_all,g⟩
 mono:=λ{F F' h} a _ b=>by
  rcases a with a|⟨t,pre,post,rfl,c,d,e⟩
  ·exact .inl a
  ·exact .inr ⟨t,pre,post,rfl,c,b t rfl,e⟩
def zbF:qH V where
 sz:=1
 rel _ _ n cs:=cs=[n]/\n.one=true
 len h:=by simp_all
 one h:=by simp_all
 fi _ h:=h
 mono _ h:=h
section
variable{F F':Nat->Prop}{h h':Hp}{cs:List Pc}{Q:fo}{u:U}{vv vb vs:V}
theorem TQ(xs:List Nat):(gZ xs).length=xs.length:=EN ..
theorem D2:∀xs,gv (gZ xs)=true
 |[]=>rfl
 | x::xs=>by
   show gv (V.I (x:Nat)::gZ xs)=true;rw[eo,D2 xs];rfl
theorem SN(xs ys:List Nat):gZ (xs++ys)=gZ xs++gZ ys:=PO ..
theorem ej.zgb(H:ej F h cs)(i:Nat){ty:Nat}{xs:List Nat}{v:V}(hi:cs[i]? =some (quP ty xs v)):fD v=some (.I xs.length):=by
 rcases H.ok i _ hi with⟨rfl,rfl⟩|⟨t,pre,post,rfl,_⟩ <;> rfl
theorem ej.zfU(H:ej F h cs)(i:Nat){ty x:Nat}{xs:List Nat}{v:V}(hi:cs[i]? =some (quP ty (x::xs) v)) :
  ∃l o b,gG 1 v (.I 0)=some (.ptr l o)/\ez (.ptr l o) h=some (.I x)/\jz 1 v (some (.I 1)) none h=some b/\ej F h (cs.set i (quP ty xs b)):=by
 rcases H.ok i _ hi with⟨_,a⟩|⟨t,pre,post,rfl,a,d,c,e,f⟩
 ·cases a
 ·refine⟨t,pre.length+0*1,.slice t (pre.length+1*1) ((x::xs).length-1),by rfl,ma c ?_,?_,H.swap hi (.inr ⟨t,pre++[V.I x],post,?_,a,d,?_,?_,f⟩) λ_ h=>h⟩
  ·rw[M6,Nat.zero_mul,wBw,Zo (ju _),Nat.sub_self];rfl
  ·unfold jz kI;simp only[c,fe,G5];rw[show hbound 0 (some (V.I 1))=some 1 from rfl,fe,nj _ (Xn _),nj _ (by rfl),nj _ (by simp_all)];rfl
  ·simp
  ·grind[gZ]
  ·rw[pd,e];rfl
theorem ej.zfb(H:ej F h cs)(i:Nat){ty kL K9 y:Nat}{ro:Bool}{xs:List Nat}{v:V}(hi:cs[i]? =some (quP ty xs v))(o:kL<=1000)(q:xs.length<1000000) :
  ∃c h',eR ty 1 kL v (.slice h.next 0 1) (h.new (.cells K9 1 true ro (gZ [y])))=some (.val c h')/\h.next+1<=h'.next/\ej F h' (cs.set i (quP ty (xs++[y]) c))/\Sn F h F h':=by
 let⟨e,r⟩:=H.grow (mw.new h (.cells K9 1 true ro (gZ [y])))
 have g:ml (h.new (.cells K9 1 true ro (gZ [y]))) 1 (.slice h.next 0 1)=some (1,gZ [y]):=px rfl;have I:(h.new (.cells K9 1 true ro (gZ [y]))).next=h.next+1:=rfl;have hq:=e.ok i _ hi;generalize h.new (.cells K9 1 true ro (gZ [y]))=b at*;have s:(xs.length+1)*kL<=1000000*1000:=Nat.mul_le_mul (by omega) o;have j:∃c h',eR ty 1 kL v (.slice h.next 0 1) b=some (.val c h')/\QuR ty F h' (xs++[y]) c/\mw (Loc v) b h'/\∀t,Loc c t->Loc v t\/b.next<=t:=by
  rcases hq with⟨rfl,rfl⟩|⟨t,pre,post,rfl,f,u,m,w,J⟩
  ·refine⟨.slice b.next 0 1,b.new (.cells ty 1 true false (gZ [y])),?_,.inr ⟨b.next,[],[],rfl,Pv _,λk=>wBp _ (e.fl _ k),fh _ _,rfl,rfl⟩,mw.new _ _,by simp_all⟩;unfold eR;simp only[g,fe];show bB (gv (gZ [y])) _=_;rw[nj _ (D2 _),nj _ (by grind[UW]),nj _ (by rfl)]
  ·have e0:(pre++gZ xs++post).length=pre.length+xs.length+post.length:=by rw[K8,K8,TQ]
   cases post with
   | nil =>
     refine⟨.slice b.next 0 (xs.length+1),(b.put t (.cells ty 1 false false (pre++gZ xs++[]))).new (.cells ty 1 true false (gZ xs++gZ [y])),?_,.inr ⟨b.next,[],[],by simp,Pv _,λk=>wBp _ (e.fl _ k),?_,rfl,rfl⟩,(mw.put _ rfl f).trans (mw.new _ _),by simp_all⟩
     ·unfold eR kI
      have d:sub (pre++gZ xs++[]) pre.length (Nat.mul xs.length 1)=some (gZ xs):=by
        show sub (pre++gZ xs++[]) pre.length (xs.length*1)=_;rw[EI (by omega),JY,List.drop_left,wA1 (by simp_all)]
      have a:Nat.ble (Nat.add pre.length (Nat.mul (Nat.add xs.length 1) 1)) (pre++gZ xs++[]).length=false:=by
        rw[wBj];intro x;have:=K7 x;rw[e0]at this;have l:Nat.add pre.length (Nat.mul (Nat.add xs.length 1) 1)=pre.length+(xs.length+1)*1:=rfl;rw[l]at this;simp at this;omega
      simp only[g,fe];show bB (gv (gZ [y])) _=_;rw[nj _ (D2 _)];simp only[m,fe,d,D2];rw[nj _ (by rfl),nj _ (by rfl),nj _ (Xn _),a];simp only[uk];rw[nj _ (by grind[UW]),nj _ (by grind[UW])]
     ·simp[JY,O7,SN]
      exact fh (b.put t _) _
   | cons p post=>
     refine⟨.slice t pre.length (xs.length+1),b.put t (.cells ty 1 true false (pre++gZ (xs++[y])++post)),?_,.inr ⟨t,pre,post,by simp,f,u,gq _ f,w,?_⟩,mw.put _ rfl f,by simp_all⟩
     ·unfold eR kI
      have a:Nat.ble (Nat.add pre.length (Nat.mul (Nat.add xs.length 1) 1)) (pre++gZ xs++p::post).length=true:=by
        refine UW ?_;show pre.length+(xs.length+1)*1<=_;rw[e0,Rb];omega
      have z:qw (Nat.add pre.length (Nat.mul xs.length 1)) (pre++gZ xs++p::post) (gZ [y])=some (pre++gZ (xs++[y])++post):=by
        have A:(gZ [y]).length=1:=rfl;have l:(pre++gZ xs).length=pre.length+xs.length:=by rw[K8,TQ]
        rw[show Nat.add pre.length (Nat.mul xs.length 1)=pre.length+xs.length by simp_all,AO (by simp_all),A];congr 1;rw[<-l,List.take_left,SN,<-wBg,List.drop_left];simp
      simp only[g,fe];show bB (gv (gZ [y])) _=_;rw[nj _ (D2 _)];simp only[m,fe];rw[nj _ (by rfl),nj _ (by rfl),nj _ (Xn _),a]
      simp_all
     simp_all
 let⟨c,h',B,C,n,D⟩:=j
 let⟨E,G⟩:=e.DV (p:=quP ty (xs++[y]) c) hi n C D
 exact⟨c,h',B,by have:=n.next;omega,E,r.trans G⟩
theorem Mx{a n:Nat}(b:a<n)(H:Q (.bool true) h):cP CS gM [.I a,.I n] h Q:=by
 refine IA rfl rfl ?_;unfold Ab;refine ed (oS ..) ?_;simp only[fe,jT];rw[ Ml (show(a:Int)<(n:Nat) by omega)];exact H
theorem Ui{op:Nat}(H:Q (.bool (KG op)) h):cP CS jN [.I op] h Q:=by
 refine EX rfl rfl ?_;unfold xF;refine ed (jT ..) ?_;simp[ gO];have e:(decide ((op:Int)<19) ||((op:Int) == 21))=KG op:=by
  unfold KG;rw[show((op:Int) == 21)=(op == 21) from ieq _ 21];congr 1;rw[decide_eq_decide];omega
 rw[e];exact H
theorem ie.zfJ{fs:List Fm}{f:V}(a:ie eF F h fs f){i:Nat}{x:Fm}(d:fs[i]? =some x) :
  ∃l o a b,F l/\gG 4 f (.I i)=some (.ptr l o)/\ez (.ptr l (o+2)) h=some a/\ez (.ptr l (o+3)) h=some b/\ie eN F h x.locals a/\ie eN F h x.stack b:=by
 obtain⟨hi,rfl⟩:=kj.1 d;obtain⟨l,o,w,e,g,m,⟨a,b,rfl,j,k⟩,c⟩:=a.ix hi .i64;exact⟨l,o,a,b,e,g,c 2 a rfl,c 3 b rfl,j,k⟩
theorem EW:∀{fs:List Fm},(∀f∈fs,f.locals.length<=40/\f.stack.length<=60)->(iq fs).length<=fs.length*100
 |[],_=>by simp[iq]
 | f::fs,hf=>by
   have a:=EW (fs:=fs) (by simp_all)
   grind[iq]
theorem PC{fs:List Fm}{f:V}(B:ej F h cs)(hs:ie eF F h fs f)(i:fs.length<=30/\∀f∈fs,f.locals.length<=40/\f.stack.length<=60)
  (H:∀F' h' v,Sn F h F' h'->ej F' h' cs->ie eN F' h' (iq fs) v->Q v h'):cP CS kF [.agg [f]] h Q:=by
 refine DW rfl rfl ?_;unfold vQ;refine jM B (by simp only[eo,hs.one];rfl) λt m u=>?_;generalize h.next=n at*;have m:ej F t (eJ eN ev [] .ee::ey n 52 [f]::cs):=m.add .nil λ_ h=>h
 refine Bg (λk l h'=>∃j v,l=[.ptr n 0,v,.I (j:Nat)]/\j+k=fs.length/\Sn F t F h'/\ej F h' (eJ eN ev (iq (fs.take j)) v::ey n 52 [f]::cs)) ?_ (k:=fs.length)
  ⟨0,_,rfl,by omega,Sn.refl _ _,m⟩
 rintro k _ v _ C ⟨j,_,⟨⟩,hk,p,b⟩;unfold qY;have e:=(hs.since u).since p;refine ed (by rfl) (ed (b.ld 1 rfl rfl) (ed e.len ?_));by_cases hj:j<fs.length;rotate_left
 ·refine iI ?_;rw[wA1 (by omega)]at b
  let⟨d,g,r3⟩:=b.jZ 0 rfl
  simp[mP]at d;exact H _ _ _ ((u.trans p).trans g) d.tail.tail r3
 refine gy ?_
 let⟨l,o,a,c,hl,w,D,x,ia,ic⟩:=e.zfJ (hO hj)
 let⟨f1,f2⟩:=i.2 _ (AU hj)
 have hlen:=EW (fs:=fs.take j) λf E=>i.2 f (wBa E);rw[NM]at hlen;have q:(iq (fs.take j)).length<=3000:=by
  have:=i.1;have:min j fs.length<=30:=by omega
  omega
 refine ed (by rfl) (ed (b.ld 1 rfl rfl) (ed w (ed (by rfl) (ed D (ed (by rfl) (ed (b.ld 1 rfl rfl) (ed w (ed (by rfl) (ed x ?_)))))))))
 let⟨y,z,G,n3,d,g⟩:=b.Pf 0 rfl (kL:=8) ia (by decide) (by decide) (by omega)
 have r:eR 3 1 8 v a C=some (.val y z):=G;rw[r,ei];simp[mP]at d;refine⟨n3,iR x (g.fi _ hl),d.ld 1 rfl rfl,?_⟩
 let⟨A,I,J,K,L,s4⟩:=d.Pf 0 rfl (kL:=8) (ic.since g) (by decide) (by decide) (by grind)
 have s:eR 3 1 8 y c z=some (.val A I):=J;rw[s,ei];simp[mP]at L;refine⟨K,fI ⟨k-1,by omega,j+1,A,rfl,by omega,(p.trans g).trans s4,?_⟩⟩
 grind[iq,OX]
theorem zbN{xs:List Nat}{a b:V}(c:ie eN F h xs a)(d:ie eN F h xs b)(m:xs.length<1000000000)(H:Q (.bool true) h):cP CS nU [a,b] h Q:=by
 refine Gu rfl rfl ?_;unfold yS;refine ed c.len (ed d.len (tI (gj rfl ?_)));refine Du (λk l h'=>∃i,l=[a,b,.I (i:Nat)]/\i+k=xs.length/\h' = h) ?_ (k:=xs.length) (by simp_all);rintro k _ _ _ h' ⟨i,⟨⟩,hk,rfl⟩;unfold uq;refine ed c.len ?_;by_cases hi:i<xs.length
 ·refine gy ?_
  let⟨l,o,_,e,f⟩:=c.nat (hO hi) .i64
  let⟨l',o',_,g,j⟩:=d.nat (hO hi) .i64
  refine ed e (ed f (ed g (ed j (tI (gj rfl ?_)))));exact fI ⟨k-1,by omega,i+1,rfl,by omega,rfl⟩
 ·exact iI H
theorem ZA(g:Good u)(I:ej F h cs)(m:zQ F h u vv vb vs)(H:∀F' h' v,Sn F h F' h'->ej F' h' cs->ie (eL eN) F' h' ((List.range u.blocks.length).map (Un.ahead u)) v->Q v h') :
  cP CS mX [.agg (uC u vv vb vs)] h Q:=by
 refine Ft rfl rfl ?_;unfold w5;have nb:=g.nb;refine jM I m.one λa t w=>?_;generalize h.next=lu at*;refine oF (t.ld 0 rfl rfl) (ed (m.since w).b.len ?_);rw[kW rfl (by decide) (by omega),fE];obtain⟨x,J⟩:=t.WT u.blocks.length;have n:List.replicate u.blocks.length ([]:List Nat)=(List.range u.blocks.length).map (iZ u 0 0):=by
  refine List.ext_getElem (by simp) λi a K=>?_;simp[Kv]
 rw[n]at x
 refine BP (λk l h'=>∃i ds,l=[.ptr lu 0,.slice a.next 0 u.blocks.length,.I (i:Nat)]/\i+k=u.blocks.length/\Sn F h F h'/\
  ej F h' (He eN js ev ((List.range u.blocks.length).map (iZ u i 0)) (.slice a.next 0 u.blocks.length) ds::ey lu 30 (uC u vv vb vs)::cs)) ?_ (k:=u.blocks.length) ⟨0,_,rfl,by omega,w.trans J,x⟩
 rintro k _ _ _ L ⟨i,ds,⟨⟩,hk,y,z⟩;unfold rZ;refine oF (z.ld 1 rfl rfl) (ed (m.since y).b.len ?_);by_cases hi:i<u.blocks.length;rotate_left
 ·refine iI ?_;obtain rfl:i=u.blocks.length:=by omega
  let⟨M,N,s4,A⟩:=z.VJ 0 rfl
  have e:(List.range u.blocks.length).map (iZ u u.blocks.length 0)=(List.range u.blocks.length).map (Un.ahead u):=by
   refine(by grind[Yo,pR])
  rw[e]at A;exact H M L _ (y.trans s4) N.tail.tail A
 refine gy ?_;obtain⟨B,o⟩:∃B,u.blocks[i]? =some B:=by simp_all
 have O:=AT g o
 refine Cc (λk l h'=>∃j ds,l=[.ptr lu 0,.slice a.next 0 u.blocks.length,.I i,.I (j:Nat)]/\
  j+k=B.next.length/\Sn F h F h'/\ej F h' (He eN js ev ((List.range u.blocks.length).map (iZ u i j)) (.slice a.next 0 u.blocks.length) ds::ey lu 30 (uC u vv vb vs)::cs)) ?_ (k:=B.next.length)
  (by grind)
 rintro P _ _ _ _ C ⟨j,c,⟨⟩,R,p,q⟩;unfold tn
 let⟨l7,Z,bv,bn,bp,_,D,_,_,iN,_,E⟩:=(m.since p).nV o
 refine oF (q.ld 1 rfl rfl) (ed D (oF E.next (ed iN.len ?_)));by_cases hj:j<B.next.length;rotate_left
 ·refine iI ?_;obtain rfl:j=B.next.length:=by omega
  refine fI ⟨k-1,by omega,i+1,c,rfl,by omega,p,?_⟩;have e:(List.range u.blocks.length).map (iZ u (i+1) 0)=(List.range u.blocks.length).map (iZ u i B.next.length):=by grind[Yo,J8]
  grind
 refine gy ?_
 let⟨l8,o8,_,S,T⟩:=iN.nat (hO hj) .i64
 have r:B.next[j]<u.blocks.length:=g.nx i _ (by grind[next,AU]);have f:B.next[j]<((List.range u.blocks.length).map (iZ u i j)).length:=by simpa using r
 obtain ⟨l,d,d',U,h7,hd,hl,G,V,W,e4,X,e6,H7,Y⟩:=q.WJ 0 rfl f (kL:=8) rfl (by decide) (by decide) (by
  grind[pS])
 refine oF (q.ld 1 rfl rfl) (ed D (oF E.next (ed S (ed T (ed G (ed V ?_))))));rw[rS,fE];have s:eR 3 1 8 d (.slice C.next 0 1) (C.new (.cells 3 1 true false (gZ [i])))=some (.val d' U):=W;rw[s,ei];refine ed G ?_;rw[X,ei];refine fI ⟨P-1,by omega,j+1,c.set (B.next[j]) d',rfl,by omega,p.trans Y,?_⟩;have e:((List.range u.blocks.length).map (iZ u i j)).set (B.next[j]) (((List.range u.blocks.length).map (iZ u i j))[B.next[j]]'f++[i])=(List.range u.blocks.length).map (iZ u i (j+1)):=by
  refine List.ext_getElem (by simp) λb a K=>?_;rw[List.getElem_set];simp[List.getElem_map,List.getElem_range];rw[J6 o (hO hj)];by_cases eb:B.next[j]=b
  ·simp_all
  ·grind
 simp_all
end
open Un Dm
section
variable{F F':Nat->Prop}{h h':Hp}{cs:List Pc}{Q:fo}{u:U}{vv vb vs nv:V}{Y8:List (List Nat)}
structure Nxs (n:Nat) (nx:Nat->List Nat) (Y8:List (List Nat)):Prop where
 n0:0<n
 n3:n<=300
 len:Y8.length=n
 at_:∀b:Nat,b<n->Y8[b]? =some (nx b)
 two:∀b:Nat,b<n->(nx b).length<=2
 lt:∀b:Nat,b<n->∀t∈nx b,t<n
theorem Nu{n:Nat}{nx:Nat->List Nat}(w:Nxs n nx Y8)(FP:Int)(H0:ej F h cs)(hs:ie (eL eN) F h Y8 nv)
  (H:∀h' v seen,Sn F h F h'->ej F h' (eJ eB kr seen v::cs)->seen.length=n->(∀b:Nat,seen[b]? =some true↔Vr nx FP b)->Q v h') :
  cP CS j9 [nv,.I 0,.I FP] h Q:=by
 refine Dv rfl rfl ?_;unfold uS;have n0:=w.n0;have n3:=w.n3;refine ed hs.len ?_;rw[w.len,kW (z:=V.bool false) rfl (by decide) (by omega),fE];obtain⟨T,U⟩:=H0.make (E:=eB) (ty:=kr) (y:=false) (u:=V.bool false) n rfl rfl;generalize h.new (.cells kr 1 true false (List.replicate n (V.bool false)))=h1 at*;generalize h.next=r at*;by_cases hb:FP=0
 ·refine fZ (gj hb.symm (H h1 _ _ U T Xh λb=>⟨λh=>?_,by grind[absurd,XA]⟩))
  grind
 refine fZ (fU (by omega) ?_);obtain⟨l2,o2,i,e1,e2,_,I,s2⟩:=T.JZ 0 rfl (k:=0) (y:=true) (u:=V.bool true) (by simp_all) rfl rfl rfl;refine ed e1 ?_;rw[e2,ei];simp only[mP]at I;have ep:jK 3 1 1 (V.I 0) [(0,V.I 0)]=some (.cells 3 1 true false (gZ [0]),λl=> .slice l 0 1):=rfl;rw[ep,fE]
 have J:ej F (i.new (.cells 3 1 true false (gZ [0]))) (quP ev [0] (.slice i.next 0 1)::eJ eB kr ((List.replicate n false).set 0 true) (.slice r 0 n)::cs)/\Sn F i F (i.new (.cells 3 1 true false (gZ [0]))):=
  I.new (p:=quP ev [0] (.slice i.next 0 1)) _ (.inr ⟨i.next,[],[],rfl,Pv _,I.fresh,fh _ _,rfl,rfl⟩) λl e=>e.symm
 obtain⟨J,s3⟩:=J;generalize i.new (.cells 3 1 true false (gZ [0]))=h3 at*;generalize i.next=lq at*;have K:=(U.trans s2).trans s3
 refine Ay (λk l h'=>∃(seen:List Bool) (todo:List Nat) (s:V),l=[nv,.I FP,.slice r 0 n,s]/\k=todo.length+seen.count false/\Sn F h F h'/\Wo n nx FP none seen todo/\ej F h' (quP ev todo s::eJ eB kr seen (.slice r 0 n)::cs)) ?_ (k:=[0].length+((List.replicate n false).set 0 true).count false)
  ⟨_,_,_,rfl,rfl,K,Wo.start n0 hb,J⟩
 rintro k _ _ _ s h4 ⟨seen,todo,_,⟨⟩,hk,s4,W,B⟩;unfold qF;refine ed (B.zgb 0 rfl) ?_
 cases todo with
 | nil=>
   refine IY (fU (by simp) ?_)
   exact H h4 _ seen s4 B.tail W.len W.iff
 | cons b todo=>
   refine IY (gj (by simp_all) ?_);obtain⟨la,oa,aa,x1,x2,x3,X⟩:=B.zfU 0 rfl;refine ed x1 (ed x2 (ed x3 ?_));simp only[mP]at X;obtain⟨W5,D0⟩:=W.pop;have o:b<n:=by
     have:=(kj.1 (W.work b (by simp))).1;rw[W.len]at this;exact this
   have ab:=w.two b o
   refine Ar (λC l h'=>∃(j:Nat) (a:List Bool) (d:List Nat) (s:V),l=[nv,.I FP,.slice r 0 n,s,.I (b:Nat),.I (j:Nat)]/\j+C=(nx b).length/\d.length+a.count false+1<=k/\Sn F h F h'/\Wo n nx FP (some (b,j)) a d/\ej F h' (quP ev d s::eJ eB kr a (.slice r 0 n)::cs)) ?_ (k:=(nx b).length)
     (by grind)
   clear X B W5 W s4;rintro C _ _ _ q _ _ h6 ⟨j,f,g,_,⟨⟩,ac,L,D,x,G⟩;unfold qA;obtain⟨lb,ob,wb,_,Y,Z,wr⟩:=(hs.since D).list (w.at_ b o) .i64;refine ed Y (ed Z (ed wr.len ?_));by_cases hj:j<(nx b).length
   ·refine gy ?_
    have M:=hO hj;have ae:=w.lt b o _ (AU hj);generalize (nx b)[j]=t at*;obtain⟨lc,oc,_,z1,z2⟩:=wr.nat M .i64;refine ed Y (ed Z (ed z1 (ed z2 (ed (oU ..) ?_))));have oV:=x.len;obtain⟨c,hc⟩:∃c,f[t]? =some c:=by simp_all
    obtain ⟨ld,od,q1,q2⟩:=G.Mr 1 rfl hc .i64;rw[show jX (.bool ((t:Int) != FP)) (oB (some (V.slice r 0 n)) λN=>oB (some (V.I (t:Nat))) λO=>oB (gG 1 N O) λP=>oB (ez P h6) λR=>pA .not R)=some (.bool (((t:Int) != FP)&&!c)) from by
      simp_all]
    rw[iL];refine iJ ?_;have ag:=x.less;by_cases cnd:(t:Int)≠FP/\c=false
    ·refine gj (by simp_all) ?_
     rw[cnd.2]at hc;obtain⟨le,oe,h7,e7,e8,_,H7,s7⟩:=G.JZ 1 rfl (k:=t) (y:=true) (u:=V.bool true) (by omega) rfl rfl rfl;refine ed e7 ?_;rw[e8,ei];simp only[mP,rV]at H7;rw[rS,fE];obtain⟨A,h8,e9,_,H8,s8⟩:=H7.zfb 0 rfl (kL:=8) (K9:=3) (y:=t) (ro:=false) (by decide) (by omega);have S:eR 3 1 8 q (.slice h7.next 0 1) (h7.new (.cells 3 1 true false (gZ [t])))=some (.val A h8):=e9;rw[S,ei];simp only[mP]at H8;refine qd ?_;unfold mK;refine lT (m:=1) (by omega) (by omega) ⟨C-1,by omega,j+1,_,_,A,rfl,by omega,?_,(D.trans s7).trans s8,x.push M D0 cnd.1 hc,H8⟩
     grind
    ·refine fU (λh=>cnd ?_) ?_
     ·simp_all
     refine qd ?_;unfold mK;refine lT (m:=1) (by omega) (by omega) ⟨C-1,by omega,j+1,_,_,q,rfl,by omega,L,D,x.skip M ?_,G⟩
     grind
   ·refine iI ?_
    obtain rfl:j=(nx b).length:=by omega
    exact⟨g.length+f.count false,by omega,f,g,q,rfl,rfl,D,x.next,G⟩
theorem Zt:(zbF).rel F h .ee [.ee]:=⟨rfl,rfl⟩
def zfm(n:Nat)(nx:Nat->List Nat)(O0:List (List Bool)):Prop:=O0.length=n/\∀a:Nat,a<n->∃row,O0[a]? =some row/\row.length=n/\∀b:Nat,b<n->(row[b]? =some true↔qM nx a b)
theorem zb0{n:Nat}{nx:Nat->List Nat}(w:Nxs n nx Y8)(S:ej F h cs)(hs:ie (eL eN) F h Y8 nv)
  (H:∀F' h' v O0,Sn F h F' h'->ej F' h' cs->ie (eL eB) F' h' O0 v->zfm n nx O0->Q v h') :
  cP CS nQ [nv,.I 0] h Q:=by
 refine Gg rfl rfl ?_;unfold yA;have n0:=w.n0;have n3:=w.n3;refine ed hs.len ?_;rw[w.len,kW (z:=V.ee) rfl (by decide) (by omega),fE];obtain⟨T,U⟩:=S.make (E:=zbF) (ty:=MR) (y:= .ee) (u:= .ee) n Zt rfl;generalize h.new (.cells MR 1 true false (List.replicate n V.ee))=h1 at*;generalize h.next=r at*
 refine Dh (λk l h'=>∃(F':Nat->Prop) (a:Nat) (ds:List V) (O0:List (List Bool)),l=[nv,.I 0,.slice r 0 n,.I a]/\a+k=n/\Sn F h F' h'/\ej F' h' (eJ zbF MR ds (.slice r 0 n)::cs)/\ds.length=n/\O0.length=n/\
   ∀c:Nat,c<a->∃row d,O0[c]? =some row/\ds[c]? =some d/\ie eB F' h' row d/\row.length=n/\∀b:Nat,b<n->(row[b]? =some true↔qM nx c b)) ?_ (k:=n)
  ⟨F,0,_,List.replicate n [],rfl,by omega,U,T,Xh,Xh,by omega⟩
 rintro k _ _ _ _ I ⟨s,a,ds,O0,⟨⟩,hk,t,J,W,oV,f⟩;unfold uD;refine ed (hs.since t).len ?_;rw[w.len];by_cases ha:a<n;rotate_left
 ·refine iI ?_;obtain rfl:a=n:=by omega
  obtain⟨x,j,r3⟩:=J.jZ 0 rfl;simp only[mP]at x;refine H _ I _ O0 (t.trans j) x.tail (r3.Wi (E':=eL eB) rfl (by simp_all) (by omega) λc d row ws X K Y=>?_) ⟨oV,λc hc=>?_⟩
  ·have B:=(kj.1 K).1;obtain⟨L,d',g,i,C,_⟩:=f c (by omega);rw[X]at i;rw[K]at g;cases g;cases i;obtain⟨rfl,_⟩:=Y;exact⟨d,rfl,C.mono j.mono⟩
  grind
 refine gy ?_;refine Nu w (a:Nat) J (hs.since t) λM N seen j x Z aa=>?_;have m:=t.trans j;refine ed (hs.since m).len ?_;rw[w.len,kW (z:=V.bool false) rfl (by decide) (by omega),fE];obtain⟨H4,s4⟩:=x.make (E:=eB) (ty:=kr) (y:=false) (u:=V.bool false) n rfl rfl;generalize M.new (.cells kr 1 true false (List.replicate n (V.bool false)))=h4 at*;generalize M.next=lr at*;obtain⟨l5,o5,h5,g,i,_,H5,O⟩:=H4.JZ 2 rfl (k:=a) (y:=V.slice lr 0 n) (u:=V.slice lr 0 n) (by omega) rfl rfl ⟨rfl,rfl⟩;refine ed g ?_;rw[i,ei];simp only[mP,rV]at H5;have ab:=(m.trans s4).trans O;have ac:=(j.trans s4).trans O
 refine Dd (λD l h'=>∃(b:Nat) (cur:List Bool),l=[nv,.I 0,.slice r 0 n,.I a,N,.I b]/\b+D=n/\Sn F h s h'/\Sn s I s h'/\cur.length=n/\(∀c:Nat,c<b->(cur[c]? =some true↔qM nx a c))/\
   ej s h' (eJ eB kr cur (.slice lr 0 n)::eJ eB kr seen N::eJ zbF MR (ds.set a (.slice lr 0 n)) (.slice r 0 n)::cs)) ?_ (k:=n)
  (by grind)
 rintro D _ _ _ _ _ _ h6 ⟨b,cur,⟨⟩,ae,G,o,B,P,A⟩;unfold uJ;refine ed (hs.since G).len ?_;rw[w.len];by_cases hb:b<n
 ·refine gy ?_;obtain⟨lx,ox,dx,x1,x2,R⟩:=A.Wd 2 rfl (k:=a) (by simp_all) .i64 rfl;have hg:(ds.set a (V.slice lr 0 n))[a]'(by simp_all)=V.slice lr 0 n:=List.getElem_set_self _;rw[hg]at R;obtain rfl:dx=V.slice lr 0 n:=by have:=R.1;simp_all
  obtain⟨c,hc⟩:∃c,seen[b]? =some c:=by simp_all
  obtain⟨ly,oy,y1,y2⟩:=A.Mr 1 rfl hc .i64;refine ed x1 (ed x2 (ed y1 (ed y2 (Nc ?_))));obtain⟨lz,oz,h7,z1,z2,zn,p,q⟩:=A.JZ 0 rfl (k:=b) (y:=!c) (u:=V.bool (!c)) (by omega) rfl rfl rfl;refine ed z1 ?_;rw[z2,ei];simp only[mP]at p;refine⟨zn,fI ⟨D-1,by omega,b+1,_,rfl,by omega,G.trans q,o.trans q,by simp_all,λe he=>?_,p⟩⟩
  grind[Qd,X1,K6]
 ·refine iI ?_;obtain rfl:b=n:=by omega
  obtain⟨p,q,r7⟩:=A.jZ 0 rfl;simp only[mP]at p;refine fI ⟨k-1,by omega,_,a+1,_,O0.set a cur,rfl,by omega,G.trans q,p.tail.tail,by simp_all,by simp_all,λc hc=>?_⟩;by_cases e:c=a
  ·simp_all
  ·rw[K6 (by omega),K6 (by omega)];obtain⟨row,d,g,i,C,e4⟩:=f c (by omega);exact⟨row,d,g,i,(C.since o).since q,e4⟩
structure zdh (u:U) (nV IV:List Nat) (O0:List (List Bool)):Prop where
 at_:∀(v b k:Nat),At u v b k->nV[v]? =some b/\IV[v]? =some k
 Ug:zfm u.blocks.length (next u) O0
def WG(u:U)(vv vb vs wb wp wd:V):List V:=[.I u.func,.I u.pc,vv,vb,vs,wb,wp,wd]
variable{nV IV:List Nat}{O0:List (List Bool)}{wb wp wd:V}
theorem Ip(o:zdh u nV IV O0)(A:ej F h cs)(i:zQ F h u vv vb vs)(y:ie eN F h nV wb)(hp:ie eN F h IV wp)(z:ie (eL eB) F h O0 wd){a b k c j:Nat}(e:At u a c j)(l:b<u.blocks.length)(hs:c=b/\j<k\/c≠b/\qM (next u) c b)
  (H:∀h',Sn F h F h'->ej F h' cs->Q (.bool true) h'):cP CS hY [.agg (WG u vv vb vs wb wp wd),.I a,.I b,.I k] h Q:=by
 refine zS rfl rfl ?_;unfold qf;obtain⟨C,D⟩:=o.at_ a c j e;refine jM A (by simp only[WG,eo,i.v.one,i.b.one,i.s.one,y.one,hp.one,z.one];rfl) λd f g=>?_;generalize h.next=lx at*;obtain⟨l1,N,_,E,G⟩:=(y.since g).nat C .i64;obtain⟨l2,O,_,P,R⟩:=(hp.since g).nat D .i64;have I:ez (.ptr lx (0+5)) d=some wb:=f.ld 0 rfl rfl;have S:ez (.ptr lx (0+6)) d=some wp:=f.ld 0 rfl rfl;have T:ez (.ptr lx (0+7)) d=some wd:=f.ld 0 rfl rfl;have m:c<u.blocks.length:=by
  obtain⟨B,U,_⟩:=e;exact by grind
 obtain ⟨row,r1,W,r3⟩:=o.Ug.2 c m;obtain⟨l3,X,d3,_,Y,Z,J⟩:=(z.since g).list r1 .i64;have hq:=H d g f.tail;refine ed (by rfl) (ed I (ed E (ed G (ed (gO ..) ?_))));rw[show jX (.bool ((c:Int) == (b:Int))) (oB (fF 6 (V.ptr lx 0)) λn=>oB (ez n d) λp=>oB (some (V.I a)) λq=>oB (gG 1 p q) λr=>oB (ez r d) λt=>oB (some (V.I k)) λw=>en .lss 3 t w)=some (.bool (((c:Int) == (b:Int))&&decide ((j:Int)<k))) from by
  simp_all]
 rw[iL];rcases hs with⟨rfl,K⟩|⟨K,L⟩
 ·rw[show(((c:Int) == (c:Int))&&decide ((j:Int)<k))=true by rw[yl];exact⟨by simp,Ml (by omega)⟩];exact ed rfl hq
 ·have x:=(r3 b l).2 L;obtain⟨l4,o4,_,w1,w2⟩:=J.bool x .i64;rw[show(((c:Int) == (b:Int))&&decide ((j:Int)<k))=false by grind];have M:((c:Int) != (b:Int))=true:=by rw[bne_iff_ne];omega
  refine ed (a:= .bool true) ?_ hq
  simp_all
theorem Qj(o:zdh u nV IV O0)(g:Good u)(E:ej F h cs)(e:zQ F h u vv vb vs)(A:ie eN F h nV wb)(hp:ie eN F h IV wp)(B:ie (eL eB) F h O0 wd){s b k:Nat}{fs:List Fm}(a:u.eh[s]? =some fs)(p:b<u.blocks.length)(hs:∀w∈iq fs,∃c j,At u w c j/\(c=b/\j<k\/c≠b/\qM (next u) c b))
  (H:∀F' h',Sn F h F' h'->ej F' h' cs->Q (.bool true) h'):cP CS jk [.agg (WG u vv vb vs wb wp wd),.I s,.I b,.I k] h Q:=by
 refine zK rfl rfl ?_;unfold qm;refine jM E (by simp only[WG,eo,e.v.one,e.b.one,e.s.one,A.one,hp.one,B.one];rfl) λW C D=>?_;generalize h.next=lx at*;have u1:=e.since D;obtain⟨l1,X,f,_,G,I,_,J⟩:=u1.st a;refine ed (by rfl) (ed (by rfl) (ed (C.ld 0 rfl rfl) (ed G (ed I ?_))));refine PC C J (by grind[HZ]) λm K L M N O=>?_;have P:=EW (fs:=fs) (HZ g s fs a).2;have:=(HZ g s fs a).1;have q:=D.trans M
 refine yp (λr l h'=>∃i:Nat,l=[.I b,.I k,.ptr lx 0,L,.I (i:Nat)]/\i+r=(iq fs).length/\Sn F h m h'/\Sn m K m h'/\ej m h' (ey lx _ (WG u vv vb vs wb wp wd)::cs)) ?_ (k:=(iq fs).length)
  ⟨0,rfl,by omega,q,Sn.refl _ _,N⟩
 rintro r _ _ _ _ _ R ⟨i,⟨⟩,hk,d,n,t⟩;unfold py;have r3:=O.since n;refine ed r3.len ?_;by_cases hi:i<(iq fs).length
 ·refine gy ?_;have S:=hO hi;obtain⟨c,j,y,z⟩:=hs _ (AU hi);generalize (iq fs)[i]=x at*;obtain⟨l4,Y,_,T,U⟩:=r3.nat S .i64;refine ed (t.tK 0 rfl rfl) (ed T (ed U ?_));refine Ip o t (e.since d) (A.since d) (hp.since d) (B.since d) y p z λZ s4 V=>?_;refine⟨s4.next,xM (gj rfl ?_)⟩;exact fI ⟨r-1,by omega,i+1,rfl,by omega,d.trans s4,n.trans s4,V⟩
 ·exact iI (H m R d t.tail)
end
