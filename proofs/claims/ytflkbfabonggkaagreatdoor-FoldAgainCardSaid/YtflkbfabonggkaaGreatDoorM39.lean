/- Parts. -/
import Derived.Test.YtflkbfabonggkaaGreatDoorM28
import Derived.Test.YtflkbfabonggkaaGreatDoorM36
set_option maxHeartbeats 4000000
namespace Go.Proofs.YtflkbfabonggkaaGreatDoor.Hx
open Un Dm
def QuR(ty:Nat)(F:Nat->Prop)(h:Hp)(xs:List Nat)(v:V):Prop:=(v = .ee/\xs=[])\/∃t pre post,v = .slice t pre.length xs.length/\t<h.next/\¬F t/\h.get t=some (.cells ty 1 true false (pre++gP xs++post))/\gj pre=true/\gj post=true
def ZS(ty:Nat)(xs:List Nat)(v:V):Pc where
 ma:=Loc v
 ok F h:=QuR ty F h xs v
 Oa:=λ{F h} a l b=>by
  rcases a with⟨rfl,_⟩|⟨t,pre,post,rfl,c,d,_⟩
  ·exact b.elim
  simp_all
 fh:=λ{F h h'} a _ b f=>by
  rcases a with a|⟨t,pre,post,rfl,c,d,e,g⟩
  ·exact .inl a
  ·exact .inr ⟨t,pre,post,rfl,EL c f,d,by simp_all,g⟩
 mono:=λ{F F' h} a _ b=>by
  rcases a with a|⟨t,pre,post,rfl,c,d,e⟩
  ·exact .inl a
  ·exact .inr ⟨t,pre,post,rfl,c,b t rfl,e⟩
def zbp:p8 V where
 sz:=1
 rel _ _ n cs:=cs=[n]/\n.one=true
 len h:=by simp_all
 one h:=by simp_all
 fh _ h:=h
 mono _ h:=h
section
variable{F F':Nat->Prop}{h h':Hp}{cs:List Pc}{Q:ft}{u:U}{vv vb vs:V}
theorem RG(xs:List Nat):(gP xs).length=xs.length:=DL ..
theorem DC:∀xs:List Nat,gj (gP xs)=true
 |[]=>rfl
 | x::xs=>by
   show gj (V.I (x:Nat)::gP xs)=true;rw[ey,DC xs];rfl
theorem Rt(xs ys:List Nat):gP (xs++ys)=gP xs++gP ys:=Ox ..
theorem ej.zfE(H:ej F h cs)(i:Nat){ty:Nat}{xs:List Nat}{v:V}(hi:cs[i]? =some (ZS ty xs v)):fE v=some (.I xs.length):=by
 rcases H.ok i _ hi with⟨rfl,rfl⟩|⟨t,pre,post,rfl,_⟩ <;> rfl
theorem ej.zfb(H:ej F h cs)(i:Nat){ty x:Nat}{xs:List Nat}{v:V}(hi:cs[i]? =some (ZS ty (x::xs) v)) :
  ∃l o b,gz 1 v (.I 0)=some (.ptr l o)/\ez (.ptr l o) h=some (.I x)/\jf 1 v (some (.I 1)) none h=some b/\ej F h (cs.set i (ZS ty xs b)):=by
 rcases H.ok i _ hi with⟨_,a⟩|⟨t,pre,post,rfl,a,d,c,e,f⟩
 ·cases a
 ·refine⟨t,pre.length+0*1,.slice t (pre.length+1*1) ((x::xs).length-1),by rfl,lE c ?_,?_,H.swap hi (.inr ⟨t,pre++[V.I x],post,?_,a,d,?_,?_,f⟩) λ_ h=>h⟩
  ·rw[LY,Nat.zero_mul,wBw,Yq (iZ _),Nat.sub_self];rfl
  ·unfold jf j5;simp only[c,fe,GB];rw[show hbound 0 (some (V.I 1))=some 1 from rfl,fe,mE _ (WG _),mE _ (by rfl),mE _ (by simp_all)];rfl
  ·simp
  ·grind[gP]
  ·rw[oh,e];rfl
theorem ej.zdK(H:ej F h cs)(i:Nat){ty jW DP y:Nat}{ro:Bool}{xs:List Nat}{v:V}(hi:cs[i]? =some (ZS ty xs v))(q:jW<=1000)(r:xs.length<1000000) :
  ∃c h',eR ty 1 jW v (.slice h.next 0 1) (h.new (.cells DP 1 true ro (gP [y])))=some (.val c h')/\h.next+1<=h'.next/\ej F h' (cs.set i (ZS ty (xs++[y]) c))/\Sn F h F h':=by
 obtain ⟨e,s⟩:=H.grow (lN.new h (.cells DP 1 true ro (gP [y])));have g:lK (h.new (.cells DP 1 true ro (gP [y]))) 1 (.slice h.next 0 1)=some (1,gP [y]):=nV (k:=0) rfl;have J:(h.new (.cells DP 1 true ro (gP [y]))).next=h.next+1:=rfl;have hq:=e.ok i _ hi;generalize h.new (.cells DP 1 true ro (gP [y]))=b at*;have u:(xs.length+1)*jW<=1000000*1000:=Nat.mul_le_mul (by omega) q;have j:∃c h',eR ty 1 jW v (.slice h.next 0 1) b=some (.val c h')/\QuR ty F h' (xs++[y]) c/\lN (Loc v) b h'/\∀t,Loc c t->Loc v t\/b.next<=t:=by
  rcases hq with⟨rfl,rfl⟩|⟨t,pre,post,rfl,f,w,n,x,K⟩
  ·refine⟨.slice b.next 0 1,b.new (.cells ty 1 true false (gP [y])),?_,.inr ⟨b.next,[],[],rfl,Oy _,λl=>wBq _ (e.fl _ l),fg _ _,rfl,rfl⟩,lN.new _ _,by simp_all⟩;unfold eR;simp only[g,fe];show bB (gj (gP [y])) _=_;rw[mE _ (DC _),mE _ (show Nat.ble (Nat.mul 1 jW) 70368744177664=true from by grind[UD]),mE _ (by rfl)]
  ·have e0:(pre++gP xs++post).length=pre.length+xs.length+post.length:=by rw[Ji,Ji,RG]
   cases post with
   | nil =>
     refine⟨.slice b.next 0 (xs.length+1),(b.put t (.cells ty 1 false false (pre++gP xs++[]))).new (.cells ty 1 true false (gP xs++gP [y])),?_,.inr ⟨b.next,[],[],by simp,Oy _,λl=>wBq _ (e.fl _ l),?_,rfl,rfl⟩,(lN.put (S:=Loc (.slice t pre.length xs.length)) _ rfl f).trans (lN.new _ _),by simp_all⟩
     ·unfold eR j5
      have d:sub (pre++gP xs++[]) pre.length (Nat.mul xs.length 1)=some (gP xs):=by
        show sub (pre++gP xs++[]) pre.length (xs.length*1)=_;rw[Er (by omega),Jk,List.drop_left,ZU (by simp_all)]
      have a:Nat.ble (Nat.add pre.length (Nat.mul (Nat.add xs.length 1) 1)) (pre++gP xs++[]).length=false:=by
        rw[wBk];intro z;have:=Kj z;rw[e0]at this;have m:Nat.add pre.length (Nat.mul (Nat.add xs.length 1) 1)=pre.length+(xs.length+1)*1:=rfl;rw[m]at this;simp at this;omega
      simp only[g,fe];show bB (gj (gP [y])) _=_;rw[mE _ (DC _)];simp only[n,fe,d,DC];rw[mE _ (by rfl),mE _ (by rfl),mE _ (WG _),a];simp only[tT];rw[mE _ (show Nat.ble (Nat.mul (Nat.add xs.length 1) jW) 70368744177664=true from by grind[UD]),mE _ (show Nat.ble (Nat.add xs.length 1) 70368744177664=true from by grind[UD])]
     ·simp only[Jk,SO,Rt]
      exact fg (b.put t _) _
   | cons p post=>
     refine⟨.slice t pre.length (xs.length+1),b.put t (.cells ty 1 true false (pre++gP (xs++[y])++post)),?_,.inr ⟨t,pre,post,by simp,f,w,gg _ f,x,?_⟩,lN.put _ rfl f,by simp_all⟩
     ·unfold eR j5
      have a:Nat.ble (Nat.add pre.length (Nat.mul (Nat.add xs.length 1) 1)) (pre++gP xs++p::post).length=true:=by
        refine UD ?_;show pre.length+(xs.length+1)*1<=_;rw[e0,QN];omega
      have A:pJ (Nat.add pre.length (Nat.mul xs.length 1)) (pre++gP xs++p::post) (gP [y])=some (pre++gP (xs++[y])++post):=by
        have B:(gP [y]).length=1:=rfl;have m:(pre++gP xs).length=pre.length+xs.length:=by rw[Ji,RG]
        rw[show Nat.add pre.length (Nat.mul xs.length 1)=pre.length+xs.length by simp_all,Af (by simp_all),B];congr 1;rw[<-m,List.take_left,Rt,<-wBh,List.drop_left];simp
      simp only[g,fe];show bB (gj (gP [y])) _=_;rw[mE _ (DC _)];simp only[n,fe];rw[mE _ (by rfl),mE _ (by rfl),mE _ (WG _),a]
      simp_all
     simp_all
 obtain⟨c,h',C,D,o,E⟩:=j;obtain⟨G,I⟩:=e.DG (p:=ZS ty (xs++[y]) c) hi o D E;exact⟨c,h',C,by have:=o.next;omega,G,s.trans I⟩
theorem Lt{a n:Nat}(b:a<n)(H:Q (.bool true) h):cP CS gJ [.I a,.I n] h Q:=by
 refine HW rfl rfl ?_;unfold zD;refine ed (nM ..) ?_;simp only[fe,jB,jc,hX];rw[Kt (show(0:Int)<=(a:Nat) by omega),Kt (show(a:Int)<(n:Nat) by omega)];exact H
theorem TL{op:Nat}(H:Q (.bool (Jo op)) h):cP CS ju [.I op] h Q:=by
 refine EF rfl rfl ?_;unfold xh;refine ed (jB ..) ?_;simp only[fe,ik,pH,hX];have e:(decide ((op:Int)<19) ||((op:Int) == 21))=Jo op:=by
  unfold Jo;rw[show((op:Int) == 21)=(op == 21) from ieq _ 21];congr 1;rw[decide_eq_decide];omega
 rw[e];exact H
theorem iy.zdT{fs:List Fm}{f:V}(a:iy eF F h fs f){i:Nat}{x:Fm}(d:fs[i]? =some x) :
  ∃l o a b,F l/\gz 4 f (.I i)=some (.ptr l o)/\ez (.ptr l (o+2)) h=some a/\ez (.ptr l (o+3)) h=some b/\iy eN F h x.locals a/\iy eN F h x.stack b:=by
 obtain⟨hi,rfl⟩:=jP.1 d;obtain⟨l,o,w,e,g,m,⟨a,b,rfl,j,k⟩,c⟩:=a.ix hi .i64;exact⟨l,o,a,b,e,g,c 2 a rfl,c 3 b rfl,j,k⟩
theorem ET:∀{fs:List Fm},(∀f∈fs,f.locals.length<=40/\f.stack.length<=60)->(hO fs).length<=fs.length*100
 |[],_=>by simp[hO]
 | f::fs,hf=>by
   have a:=ET (fs:=fs) (by simp_all)
   grind[ZP,hO,Ji,QN]
theorem Pe{fs:List Fm}{f:V}(B:ej F h cs)(hs:iy eF F h fs f)(i:fs.length<=30/\∀f∈fs,f.locals.length<=40/\f.stack.length<=60)
  (H:∀F' h' v,Sn F h F' h'->ej F' h' cs->iy eN F' h' (hO fs) v->Q v h'):cP CS jY [.agg [f]] h Q:=by
 refine CP rfl rfl ?_;unfold uO;refine ml B (by simp only[ey,hs.one];rfl) λt m u=>?_;generalize h.next=n at*;have m:ej F t (eJ eN eo [] .ee::ev n 56 [f]::cs):=m.add .nil λ_ h=>h
 refine Aj (λk l h'=>∃(j:Nat) (v:V),l=[.ptr n 0,v,.I j]/\j+k=fs.length/\Sn F t F h'/\ej F h' (eJ eN eo (hO (fs.take j)) v::ev n 56 [f]::cs)) ?_ (k:=fs.length)
  ⟨0,_,rfl,by omega,Sn.refl _ _,m⟩
 rintro k _ v _ C ⟨j,_,⟨⟩,hk,p,b⟩;unfold qt;have e:=(hs.since u).since p;refine ed (by rfl) (ed (b.ld 1 rfl rfl) (ed e.len ?_));by_cases hj:j<fs.length;rotate_left
 ·refine iJ ?_;rw[ZU (by omega)]at b;obtain⟨d,g,r3⟩:=b.jI 0 rfl;simp only[je]at d;exact H _ _ _ ((u.trans p).trans g) d.tail.tail r3
 refine gG ?_;obtain⟨l,o,a,c,D,w,E,x,G,I⟩:=e.zdT (gW hj);obtain⟨P,R⟩:=i.2 _ (AW hj);have hlen:=ET (fs:=fs.take j) λf J=>i.2 f (wBb J);rw[Mo]at hlen;have q:(hO (fs.take j)).length<=3000:=by
  have:=i.1;have:min j fs.length<=30:=by omega
  omega
 refine ed (by rfl) (ed (b.ld 1 rfl rfl) (ed w (ed (by rfl) (ed E (ed (by rfl) (ed (b.ld 1 rfl rfl) (ed w (ed (by rfl) (ed x ?_)))))))));obtain⟨y,z,K,n3,d,g⟩:=b.OB 0 rfl (jW:=8) G (by decide) (by decide) (by omega);have r:eR 3 1 8 v a C=some (.val y z):=K;rw[r,ei];simp only[je]at d;refine⟨n3,iK x (g.fh _ D),d.ld 1 rfl rfl,?_⟩;obtain⟨A,L,M,N,O,s4⟩:=d.OB 0 rfl (jW:=8) (I.since g) (by decide) (by decide) (by grind);have s:eR 3 1 8 y c z=some (.val A L):=M;rw[s,ei];simp only[je]at O;refine⟨N,fL ⟨k-1,by omega,j+1,A,rfl,by omega,(p.trans g).trans s4,?_⟩⟩
 grind[hO,N6,LY]
theorem zbj{xs:List Nat}{a b:V}(c:iy eN F h xs a)(d:iy eN F h xs b)(m:xs.length<1000000000)(H:Q (.bool true) h):cP CS mS [a,b] h Q:=by
 refine FI rfl rfl ?_;unfold xX;refine ed c.len (ed d.len (yg (gi rfl ?_)));refine Cz (λk l h'=>∃i:Nat,l=[a,b,.I (i:Nat)]/\i+k=xs.length/\h' = h) ?_ (k:=xs.length) (by simp_all);rintro k _ _ _ h' ⟨i,⟨⟩,hk,rfl⟩;unfold tJ;refine ed c.len ?_;by_cases hi:i<xs.length
 ·refine gG ?_;obtain⟨l,o,_,e,f⟩:=c.nat (gW hi) .i64;obtain⟨n,p,_,g,j⟩:=d.nat (gW hi) .i64;refine ed e (ed f (ed g (ed j (yg (gi rfl ?_)))));exact fL ⟨k-1,by omega,i+1,rfl,by omega,rfl⟩
 ·exact iJ H
theorem Za(g:Good u)(N:ej F h cs)(m:DA F h u vv vb vs)(H:∀F' h' v,Sn F h F' h'->ej F' h' cs->iy (eL eN) F' h' ((List.range u.blocks.length).map (Un.ahead u)) v->Q v h') :
  cP CS mr [.agg (uC u vv vb vs)] h Q:=by
 refine EI rfl rfl ?_;unfold vV;have nb:=g.nb;refine ml N m.one λc t x=>?_;generalize h.next=lu at*;refine oF (t.ld 0 rfl rfl) (ed (m.since x).b.len ?_);rw[kr (z:=V.ee) rfl (by decide) (by omega),fx];obtain⟨A,O⟩:=t.U8 (E:=eN) (Rz:=iQ) (ty:=eo) u.blocks.length;have n:List.replicate u.blocks.length ([]:List Nat)=(List.range u.blocks.length).map (iz u 0 0):=by
  refine List.ext_getElem (by simp) λi c P=>?_;simp[Jl]
 rw[n]at A
 refine Br (λk l h'=>∃(i:Nat) (ds:List V),l=[.ptr lu 0,.slice c.next 0 u.blocks.length,.I i]/\i+k=u.blocks.length/\Sn F h F h'/\
  ej F h' (FY eN iQ eo ((List.range u.blocks.length).map (iz u i 0)) (.slice c.next 0 u.blocks.length) ds::ev lu 30 (uC u vv vb vs)::cs)) ?_ (k:=u.blocks.length) ⟨0,_,rfl,by omega,x.trans O,A⟩
 rintro k _ _ _ R ⟨i,ds,⟨⟩,hk,C,D⟩;unfold te;refine oF (D.ld 1 rfl rfl) (ed (m.since C).b.len ?_);by_cases hi:i<u.blocks.length;rotate_left
 ·refine iJ ?_;obtain rfl:i=u.blocks.length:=by omega
  obtain ⟨S,T,s4,G⟩:=D.UX 0 rfl;have e:(List.range u.blocks.length).map (iz u u.blocks.length 0)=(List.range u.blocks.length).map (Un.ahead u):=by
   refine(by grind[Xv,oZ])
  rw[e]at G;exact H S R _ (C.trans s4) T.tail.tail G
 refine gG ?_;obtain⟨B,o⟩:∃B,u.blocks[i]? =some B:=by simp_all
 have U:B.next.length<=2:=CM g o
 refine Bu (λk l h'=>∃(j:Nat) (ds:List V),l=[.ptr lu 0,.slice c.next 0 u.blocks.length,.I i,.I j]/\
  j+k=B.next.length/\Sn F h F h'/\ej F h' (FY eN iQ eo ((List.range u.blocks.length).map (iz u i j)) (.slice c.next 0 u.blocks.length) ds::ev lu 30 (uC u vv vb vs)::cs)) ?_ (k:=B.next.length)
  (by grind)
 rintro W _ _ _ _ I ⟨j,f,⟨⟩,X,p,q⟩;unfold rJ;obtain⟨l7,o7,bv,bn,bp,_,J,_,_,K,_,L⟩:=(m.since p).nf o;refine oF (q.ld 1 rfl rfl) (ed J (oF L.next (ed K.len ?_)));by_cases hj:j<B.next.length;rotate_left
 ·refine iJ ?_;obtain rfl:j=B.next.length:=by omega
  refine fL ⟨k-1,by omega,i+1,f,rfl,by omega,p,?_⟩;have e:(List.range u.blocks.length).map (iz u (i+1) 0)=(List.range u.blocks.length).map (iz u i B.next.length):=by grind[Xv,JR]
  grind
 refine gG ?_;obtain⟨l8,o8,_,Y,Z⟩:=K.nat (gW hj) .i64;have r:B.next[j]<u.blocks.length:=g.nx i _ (by grind[next,AW]);have a:B.next[j]<((List.range u.blocks.length).map (iz u i j)).length:=by simpa using r
 have aa:((List.range u.blocks.length).map (iz u i j))[B.next[j]]'a=iz u i j B.next[j]:=by simp
 obtain ⟨l,d,d',h6,h7,hd,hl,M,e2,e3,e4,e5,e6,H7,s7⟩:=q.US 0 rfl a (jW:=8) (DP:=3) (y:=i) (w:=[.I i]) (ro:=false) rfl (by decide) (by decide) (by
  grind[oW])
 refine oF (q.ld 1 rfl rfl) (ed J (oF L.next (ed Y (ed Z (ed M (ed e2 ?_))))));rw[qZ,fx];have s:eR 3 1 8 d (.slice I.next 0 1) (I.new (.cells 3 1 true false (gP [i])))=some (.val d' h6):=e3;rw[s,ei];refine ed M ?_;rw[e5,ei];simp only[je]at H7;refine fL ⟨W-1,by omega,j+1,f.set (B.next[j]) d',rfl,by omega,p.trans s7,?_⟩;have e:((List.range u.blocks.length).map (iz u i j)).set (B.next[j]) (((List.range u.blocks.length).map (iz u i j))[B.next[j]]'a++[i])=(List.range u.blocks.length).map (iz u i (j+1)):=by
  refine List.ext_getElem (by simp) λb c P=>?_;rw[List.getElem_set];simp only[List.getElem_map,List.getElem_range];rw[Kf o (gW hj)];by_cases eb:B.next[j]=b
  ·simp_all
  ·grind
 simp_all
end
open Un Dm
section
variable{F F':Nat->Prop}{h h':Hp}{cs:List Pc}{Q:ft}{u:U}{vv vb vs nv:V}{X7:List (List Nat)}
structure Nxs (n:Nat) (nx:Nat->List Nat) (X7:List (List Nat)):Prop where
 n0:0<n
 n3:n<=300
 len:X7.length=n
 at_:∀b:Nat,b<n->X7[b]? =some (nx b)
 two:∀b:Nat,b<n->(nx b).length<=2
 lt:∀b:Nat,b<n->∀t∈nx b,t<n
theorem Na{n:Nat}{nx:Nat->List Nat}(w:Nxs n nx X7)(Fe:Int)(H0:ej F h cs)(hs:iy (eL eN) F h X7 nv)
  (H:∀h' v seen,Sn F h F h'->ej F h' (eJ eB jD seen v::cs)->seen.length=n->(∀b:Nat,seen[b]? =some true↔Tx nx Fe b)->Q v h') :
  cP CS jK [nv,.I 0,.I Fe] h Q:=by
 refine Cs rfl rfl ?_;unfold tQ;have n0:=w.n0;have n3:=w.n3;refine ed hs.len ?_;rw[w.len,kr (z:=V.bool false) rfl (by decide) (by omega),fx];obtain⟨T,U⟩:=H0.make (E:=eB) (ty:=jD) (y:=false) (u:=V.bool false) n rfl rfl;generalize h.new (.cells jD 1 true false (List.replicate n (V.bool false)))=h1 at*;generalize h.next=r at*;by_cases hb:Fe=0
 ·refine fX (gi hb.symm (H h1 _ _ U T W9 λb=>⟨λh=>?_,by grind[absurd,Xm]⟩))
  grind
 refine fX (fU (by omega) ?_);obtain⟨l2,o2,i,e1,e2,_,I,s2⟩:=T.Jj 0 rfl (k:=0) (y:=true) (u:=V.bool true) (by simp_all) rfl rfl rfl;refine ed e1 ?_;rw[e2,ei];simp only[je]at I;have ep:jr 3 1 1 (V.I 0) [(0,V.I 0)]=some (.cells 3 1 true false (gP [0]),λl=> .slice l 0 1):=rfl;rw[ep,fx]
 have J:ej F (i.new (.cells 3 1 true false (gP [0]))) (ZS eo [0] (.slice i.next 0 1)::eJ eB jD ((List.replicate n false).set 0 true) (.slice r 0 n)::cs)/\Sn F i F (i.new (.cells 3 1 true false (gP [0]))):=
  I.new (p:=ZS eo [0] (.slice i.next 0 1)) _ (.inr ⟨i.next,[],[],rfl,Oy _,I.fresh,fg _ _,rfl,rfl⟩) λl e=>e.symm
 obtain⟨J,s3⟩:=J;generalize i.new (.cells 3 1 true false (gP [0]))=h3 at*;generalize i.next=lq at*;have K:=(U.trans s2).trans s3
 refine zQ (λk l h'=>∃(seen:List Bool) (todo:List Nat) (s:V),l=[nv,.I Fe,.slice r 0 n,s]/\k=todo.length+seen.count false/\Sn F h F h'/\Wo n nx Fe none seen todo/\ej F h' (ZS eo todo s::eJ eB jD seen (.slice r 0 n)::cs)) ?_ (k:=[0].length+((List.replicate n false).set 0 true).count false)
  ⟨_,_,_,rfl,rfl,K,Wo.start n0 hb,J⟩
 rintro k _ _ _ s h4 ⟨seen,todo,_,⟨⟩,hk,s4,W,B⟩;unfold pY;refine ed (B.zfE 0 rfl) ?_
 cases todo with
 | nil=>
   refine Ik (fU (by simp) ?_)
   exact H h4 _ seen s4 B.tail W.len W.iff
 | cons b todo=>
   refine Ik (gi (by simp_all) ?_);obtain⟨la,oa,aa,x1,x2,x3,X⟩:=B.zfb 0 rfl;refine ed x1 (ed x2 (ed x3 ?_));simp only[je]at X;obtain⟨W5,CQ⟩:=W.pop;have o:b<n:=by
     have:=(jP.1 (W.work b (by simp))).1;rw[W.len]at this;exact this
   have ab:=w.two b o
   refine zT (λC l h'=>∃(j:Nat) (a:List Bool) (d:List Nat) (s:V),l=[nv,.I Fe,.slice r 0 n,s,.I (b:Nat),.I (j:Nat)]/\j+C=(nx b).length/\d.length+a.count false+1<=k/\Sn F h F h'/\Wo n nx Fe (some (b,j)) a d/\ej F h' (ZS eo d s::eJ eB jD a (.slice r 0 n)::cs)) ?_ (k:=(nx b).length)
     (by grind)
   clear X B W5 W s4;rintro C _ _ _ q _ _ h6 ⟨j,f,g,_,⟨⟩,ac,L,D,x,G⟩;unfold pT;obtain⟨lb,ob,wb,_,Y,Z,wr⟩:=(hs.since D).list (w.at_ b o) .i64;refine ed Y (ed Z (ed wr.len ?_));by_cases hj:j<(nx b).length
   ·refine gG ?_
    have M:=gW hj;have ae:=w.lt b o _ (AW hj);generalize (nx b)[j]=t at*;obtain⟨lc,oc,_,z1,z2⟩:=wr.nat M .i64;refine ed Y (ed Z (ed z1 (ed z2 (ed (tP ..) ?_))));have ng:=x.len;obtain⟨c,hc⟩:∃c,f[t]? =some c:=by simp_all
    obtain ⟨ld,od,q1,q2⟩:=G.LO 1 rfl hc .i64;rw[show jO (.bool ((t:Int) != Fe)) (oB (some (V.slice r 0 n)) λN=>oB (some (V.I (t:Nat))) λO=>oB (gz 1 N O) λP=>oB (ez P h6) λR=>pt .not R)=some (.bool (((t:Int) != Fe)&&!c)) from by
      simp_all]
    rw[hX];refine iO ?_;have ag:=x.less;by_cases cnd:(t:Int)≠Fe/\c=false
    ·refine gi (by simp_all) ?_
     rw[cnd.2]at hc;obtain⟨le,oe,h7,e7,e8,_,H7,s7⟩:=G.Jj 1 rfl (k:=t) (y:=true) (u:=V.bool true) (by omega) rfl rfl rfl;refine ed e7 ?_;rw[e8,ei];simp only[je,mA]at H7;rw[qZ,fx];obtain⟨A,h8,e9,_,H8,s8⟩:=H7.zdK 0 rfl (jW:=8) (DP:=3) (y:=t) (ro:=false) (by decide) (by omega);have S:eR 3 1 8 q (.slice h7.next 0 1) (h7.new (.cells 3 1 true false (gP [t])))=some (.val A h8):=e9;rw[S,ei];simp only[je]at H8;refine pI ?_;unfold me;refine kZ (m:=1) (by omega) (by omega) ⟨C-1,by omega,j+1,_,_,A,rfl,by omega,?_,(D.trans s7).trans s8,x.push M CQ cnd.1 hc,H8⟩
     grind
    ·refine fU (λh=>cnd ?_) ?_
     ·simp_all
     refine pI ?_;unfold me;refine kZ (m:=1) (by omega) (by omega) ⟨C-1,by omega,j+1,_,_,q,rfl,by omega,L,D,x.skip M ?_,G⟩
     grind
   ·refine iJ ?_
    obtain rfl:j=(nx b).length:=by omega
    exact⟨g.length+f.count false,by omega,f,g,q,rfl,rfl,D,x.next,G⟩
theorem Y6:(zbp).rel F h .ee [.ee]:=⟨rfl,rfl⟩
def zdD(n:Nat)(nx:Nat->List Nat)(N7:List (List Bool)):Prop:=N7.length=n/\∀a:Nat,a<n->∃row,N7[a]? =some row/\row.length=n/\∀b:Nat,b<n->(row[b]? =some true↔qd nx a b)
theorem za4{n:Nat}{nx:Nat->List Nat}(w:Nxs n nx X7)(S:ej F h cs)(hs:iy (eL eN) F h X7 nv)
  (H:∀F' h' v N7,Sn F h F' h'->ej F' h' cs->iy (eL eB) F' h' N7 v->zdD n nx N7->Q v h') :
  cP CS mR [nv,.I 0] h Q:=by
 refine FL rfl rfl ?_;unfold xW;have n0:=w.n0;have n3:=w.n3;refine ed hs.len ?_;rw[w.len,kr (z:=V.ee) rfl (by decide) (by omega),fx];obtain⟨T,U⟩:=S.make (E:=zbp) (ty:=Me) (y:= .ee) (u:= .ee) n Y6 rfl;generalize h.new (.cells Me 1 true false (List.replicate n V.ee))=h1 at*;generalize h.next=r at*
 refine CC (λk l h'=>∃(F':Nat->Prop) (a:Nat) (ds:List V) (N7:List (List Bool)),l=[nv,.I 0,.slice r 0 n,.I a]/\a+k=n/\Sn F h F' h'/\ej F' h' (eJ zbp Me ds (.slice r 0 n)::cs)/\ds.length=n/\N7.length=n/\
   ∀c:Nat,c<a->∃row d,N7[c]? =some row/\ds[c]? =some d/\iy eB F' h' row d/\row.length=n/\∀b:Nat,b<n->(row[b]? =some true↔qd nx c b)) ?_ (k:=n)
  ⟨F,0,_,List.replicate n [],rfl,by omega,U,T,W9,W9,by omega⟩
 rintro k _ _ _ _ I ⟨s,a,ds,N7,⟨⟩,hk,t,J,W,ng,f⟩;unfold tR;refine ed (hs.since t).len ?_;rw[w.len];by_cases ha:a<n;rotate_left
 ·refine iJ ?_;obtain rfl:a=n:=by omega
  obtain⟨x,j,r3⟩:=J.jI 0 rfl;simp only[je]at x;refine H _ I _ N7 (t.trans j) x.tail (r3.Wh (E':=eL eB) rfl (by simp_all) (by omega) λc d row ws X K Y=>?_) ⟨ng,λc hc=>?_⟩
  ·have B:=(jP.1 K).1;obtain⟨L,d',g,i,C,_⟩:=f c (by omega);rw[X]at i;rw[K]at g;cases g;cases i;obtain⟨rfl,_⟩:=Y;exact⟨d,rfl,C.mono j.mono⟩
  grind
 refine gG ?_;refine Na w (a:Nat) J (hs.since t) λM N seen j x Z aa=>?_;have m:=t.trans j;refine ed (hs.since m).len ?_;rw[w.len,kr (z:=V.bool false) rfl (by decide) (by omega),fx];obtain⟨H4,s4⟩:=x.make (E:=eB) (ty:=jD) (y:=false) (u:=V.bool false) n rfl rfl;generalize M.new (.cells jD 1 true false (List.replicate n (V.bool false)))=h4 at*;generalize M.next=lr at*;obtain⟨l5,o5,h5,g,i,_,H5,O⟩:=H4.Jj 2 rfl (k:=a) (y:=V.slice lr 0 n) (u:=V.slice lr 0 n) (by omega) rfl rfl ⟨rfl,rfl⟩;refine ed g ?_;rw[i,ei];simp only[je,mA]at H5;have ab:=(m.trans s4).trans O;have ac:=(j.trans s4).trans O
 refine Cc (λD l h'=>∃(b:Nat) (cur:List Bool),l=[nv,.I 0,.slice r 0 n,.I a,N,.I b]/\b+D=n/\Sn F h s h'/\Sn s I s h'/\cur.length=n/\(∀c:Nat,c<b->(cur[c]? =some true↔qd nx a c))/\
   ej s h' (eJ eB jD cur (.slice lr 0 n)::eJ eB jD seen N::eJ zbp Me (ds.set a (.slice lr 0 n)) (.slice r 0 n)::cs)) ?_ (k:=n)
  (by grind)
 rintro D _ _ _ _ _ _ h6 ⟨b,cur,⟨⟩,ae,G,o,B,P,A⟩;unfold tW;refine ed (hs.since G).len ?_;rw[w.len];by_cases hb:b<n
 ·refine gG ?_;obtain⟨lx,ox,dx,x1,x2,R⟩:=A.Vc 2 rfl (k:=a) (by simp_all) .i64 rfl;have hg:(ds.set a (V.slice lr 0 n))[a]'(by simp_all)=V.slice lr 0 n:=List.getElem_set_self _;rw[hg]at R;obtain rfl:dx=V.slice lr 0 n:=by have:=R.1;simp_all
  obtain⟨c,hc⟩:∃c,seen[b]? =some c:=by simp_all
  obtain⟨ly,oy,y1,y2⟩:=A.LO 1 rfl hc .i64;refine ed x1 (ed x2 (ed y1 (ed y2 (PQ ?_))));obtain⟨lz,oz,h7,z1,z2,zn,p,q⟩:=A.Jj 0 rfl (k:=b) (y:=!c) (u:=V.bool (!c)) (by omega) rfl rfl rfl;refine ed z1 ?_;rw[z2,ei];simp only[je]at p;refine⟨zn,fL ⟨D-1,by omega,b+1,_,rfl,by omega,G.trans q,o.trans q,by simp_all,λe he=>?_,p⟩⟩
  grind[O9,V0,Kk]
 ·refine iJ ?_;obtain rfl:b=n:=by omega
  obtain⟨p,q,r7⟩:=A.jI 0 rfl;simp only[je]at p;refine fL ⟨k-1,by omega,_,a+1,_,N7.set a cur,rfl,by omega,G.trans q,p.tail.tail,by simp_all,by simp_all,λc hc=>?_⟩;by_cases e:c=a
  ·simp_all
  ·rw[Kk (by omega),Kk (by omega)];obtain⟨row,d,g,i,C,e4⟩:=f c (by omega);exact⟨row,d,g,i,(C.since o).since q,e4⟩
structure zcj (u:U) (nf Ip:List Nat) (N7:List (List Bool)):Prop where
 at_:∀(v b k:Nat),At u v b k->nf[v]? =some b/\Ip[v]? =some k
 Ta:zdD u.blocks.length (next u) N7
def Vf(u:U)(vv vb vs wb wp wd:V):List V:=[.I u.func,.I u.pc,vv,vb,vs,wb,wp,wd]
variable{nf Ip:List Nat}{N7:List (List Bool)}{wb wp wd:V}
theorem Hl(o:zcj u nf Ip N7)(A:ej F h cs)(i:DA F h u vv vb vs)(y:iy eN F h nf wb)(hp:iy eN F h Ip wp)(z:iy (eL eB) F h N7 wd){a b k c j:Nat}(e:At u a c j)(l:b<u.blocks.length)(hs:c=b/\j<k\/c≠b/\qd (next u) c b)
  (H:∀h',Sn F h F h'->ej F h' cs->Q (.bool true) h'):cP CS gX [.agg (Vf u vv vb vs wb wp wd),.I a,.I b,.I k] h Q:=by
 refine zi rfl rfl ?_;unfold pB;obtain⟨C,D⟩:=o.at_ a c j e;refine ml A (by simp only[Vf,ey,i.v.one,i.b.one,i.s.one,y.one,hp.one,z.one];rfl) λd f g=>?_;generalize h.next=lx at*;obtain⟨l1,N,_,E,G⟩:=(y.since g).nat C .i64;obtain⟨l2,O,_,P,R⟩:=(hp.since g).nat D .i64;have I:ez (.ptr lx (0+5)) d=some wb:=f.ld 0 rfl rfl;have S:ez (.ptr lx (0+6)) d=some wp:=f.ld 0 rfl rfl;have T:ez (.ptr lx (0+7)) d=some wd:=f.ld 0 rfl rfl;have m:c<u.blocks.length:=by
  obtain⟨B,U,_⟩:=e;exact by grind
 obtain ⟨row,r1,W,r3⟩:=o.Ta.2 c m;obtain⟨l3,X,d3,_,Y,Z,J⟩:=(z.since g).list r1 .i64;have hq:=H d g f.tail;refine ed (by rfl) (ed I (ed E (ed G (ed (ik ..) ?_))));rw[show jO (.bool ((c:Int) == (b:Int))) (oB (fH 6 (V.ptr lx 0)) λn=>oB (ez n d) λp=>oB (some (V.I a)) λq=>oB (gz 1 p q) λr=>oB (ez r d) λt=>oB (some (V.I k)) λw=>en .lss 3 t w)=some (.bool (((c:Int) == (b:Int))&&decide ((j:Int)<k))) from by
  simp_all]
 rw[hX];rcases hs with⟨rfl,K⟩|⟨K,L⟩
 ·rw[show(((c:Int) == (c:Int))&&decide ((j:Int)<k))=true by rw[xg];exact⟨by simp,Kt (by omega)⟩];exact ed rfl hq
 ·have x:=(r3 b l).2 L;obtain⟨l4,o4,_,w1,w2⟩:=J.bool x .i64;rw[show(((c:Int) == (b:Int))&&decide ((j:Int)<k))=false by grind];have M:((c:Int) != (b:Int))=true:=by rw[bne_iff_ne];omega
  refine ed (a:= .bool true) ?_ hq
  simp_all
theorem Pv(o:zcj u nf Ip N7)(g:Good u)(E:ej F h cs)(e:DA F h u vv vb vs)(A:iy eN F h nf wb)(hp:iy eN F h Ip wp)(B:iy (eL eB) F h N7 wd){s b k:Nat}{fs:List Fm}(a:u.eh[s]? =some fs)(p:b<u.blocks.length)(hs:∀w∈hO fs,∃c j,At u w c j/\(c=b/\j<k\/c≠b/\qd (next u) c b))
  (H:∀F' h',Sn F h F' h'->ej F' h' cs->Q (.bool true) h'):cP CS iT [.agg (Vf u vv vb vs wb wp wd),.I s,.I b,.I k] h Q:=by
 refine zm rfl rfl ?_;unfold py;refine ml E (by simp only[Vf,ey,e.v.one,e.b.one,e.s.one,A.one,hp.one,B.one];rfl) λW C D=>?_;generalize h.next=lx at*;have u1:=e.since D;obtain⟨l1,X,f,_,G,I,_,J⟩:=u1.st a;refine ed (by rfl) (ed (by rfl) (ed (C.ld 0 rfl rfl) (ed G (ed I ?_))));refine Pe C J (by grind[ES]) λm K L M N O=>?_;have P:=ET (fs:=fs) (ES g s fs a).2;have:=(ES g s fs a).1;have q:=D.trans M
 refine xE (λr l h'=>∃i:Nat,l=[.I b,.I k,.ptr lx 0,L,.I (i:Nat)]/\i+r=(hO fs).length/\Sn F h m h'/\Sn m K m h'/\ej m h' (ev lx _ (Vf u vv vb vs wb wp wd)::cs)) ?_ (k:=(hO fs).length)
  ⟨0,rfl,by omega,q,Sn.refl _ _,N⟩
 rintro r _ _ _ _ _ R ⟨i,⟨⟩,hk,d,n,t⟩;unfold oA;have r3:=O.since n;refine ed r3.len ?_;by_cases hi:i<(hO fs).length
 ·refine gG ?_;have S:=gW hi;obtain⟨c,j,y,z⟩:=hs _ (AW hi);generalize (hO fs)[i]=x at*;obtain⟨l4,Y,_,T,U⟩:=r3.nat S .i64;refine ed (t.zb 0 rfl rfl) (ed T (ed U ?_));refine Hl o t (e.since d) (A.since d) (hp.since d) (B.since d) y p z λZ s4 V=>?_;refine⟨s4.next,w5 (gi rfl ?_)⟩;exact fL ⟨r-1,by omega,i+1,rfl,by omega,d.trans s4,n.trans s4,V⟩
 ·exact iJ (H m R d t.tail)
end
