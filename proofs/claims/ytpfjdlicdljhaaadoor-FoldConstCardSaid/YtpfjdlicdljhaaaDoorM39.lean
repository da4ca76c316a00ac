/- Parts. -/
import Derived.Test.YtpfjdlicdljhaaaDoorM28
import Derived.Test.YtpfjdlicdljhaaaDoorM36
set_option maxHeartbeats 4000000
namespace Go.Proofs.YtpfjdlicdljhaaaDoor.Hx
open Un Dm
def ZJ(ty:Nat)(F:Nat->Prop)(h:Hp)(xs:List Nat)(v:V):Prop:=(v = .cQ/\xs=[])\/∃t pre post,v = .slice t pre.length xs.length/\t<h.next/\¬F t/\h.get t=some (.cells ty 1 true false (pre++fi xs++post))/\dU pre=true/\dU post=true
def Sh(ty:Nat)(xs:List Nat)(v:V):Pc where
 ki:=Loc v
 ok F h:=ZJ ty F h xs v
 IS:=λ{F h} a l b=>by
  rcases a with⟨rfl,_⟩|⟨t,pre,post,rfl,c,d,_⟩
  ·exact b.elim
  simp_all
 dO:=λ{F h h'} a _ b f=>by
  rcases a with a|⟨t,pre,post,rfl,c,d,e,g⟩
  ·exact .inl a
  ·exact .inr ⟨t,pre,post,rfl,EP c f,d,by simp_all,g⟩
 mono:=λ{F F' h} a _ b=>by
  rcases a with a|⟨t,pre,post,rfl,c,d,e⟩
  ·exact .inl a
  ·exact .inr ⟨t,pre,post,rfl,c,b t rfl,e⟩
def Tx:oY V where
 sz:=1
 rel _ _ n cs:=cs=[n]/\n.one=true
 len h:=by simp_all
 one h:=by simp_all
 dO _ h:=h
 mono _ h:=h
section
variable{F F':Nat->Prop}{h h':Hp}{cs:List Pc}{Q:dg}{u:U}{vv vb vs:V}
theorem KD(xs:List Nat):(fi xs).length=xs.length:=yn ..
theorem yc:∀xs:List Nat,dU (fi xs)=true
 |[]=>rfl
 | x::xs=>by
   show dU (V.I (x:Nat)::fi xs)=true;rw[cY,yc xs];rfl
theorem K3(xs ys:List Nat):fi (xs++ys)=fi xs++fi ys:=LX ..
theorem cS.YY(H:cS F h cs)(i:Nat){ty:Nat}{xs:List Nat}{v:V}(hi:cs[i]? =some (Sh ty xs v)):dD v=some (.I xs.length):=by
 rcases H.ok i _ hi with⟨rfl,rfl⟩|⟨t,pre,post,rfl,_⟩ <;> rfl
theorem cS.Y8(H:cS F h cs)(i:Nat){ty x:Nat}{xs:List Nat}{v:V}(hi:cs[i]? =some (Sh ty (x::xs) v)) :
  ∃l o b,eX 1 v (.I 0)=some (.ptr l o)/\df (.ptr l o) h=some (.I x)/\jl 1 v (some (.I 1)) none h=some b/\cS F h (cs.set i (Sh ty xs b)):=by
 rcases H.ok i _ hi with⟨_,a⟩|⟨t,pre,post,rfl,a,d,c,e,f⟩
 ·cases a
 ·refine⟨t,pre.length+0*1,.slice t (pre.length+1*1) ((x::xs).length-1),by rfl,JY c ?_,?_,H.swap hi (.inr ⟨t,pre++[V.I x],post,?_,a,d,?_,?_,f⟩) λ_ h=>h⟩
  ·rw[Hq,Nat.zero_mul,Vk,Se (iC _),Nat.sub_self];rfl
  ·unfold jl gG;simp only[c,c0,Ar];rw[show hbound 0 (some (V.I 1))=some 1 from rfl,c0,iO _ (OW _),iO _ (by rfl),iO _ (by simp_all)];rfl
  ·simp
  ·grind[fi]
  ·rw[kS,e];rfl
theorem cS.XR(H:cS F h cs)(i:Nat){ty ic wF y:Nat}{ro:Bool}{xs:List Nat}{v:V}(hi:cs[i]? =some (Sh ty xs v))(q:ic<=1000)(r:xs.length<1000000) :
  ∃c h',c9 ty 1 ic v (.slice h.next 0 1) (h.new (.cells wF 1 true ro (fi [y])))=some (.val c h')/\h.next+1<=h'.next/\cS F h' (cs.set i (Sh ty (xs++[y]) c))/\Sn F h F h':=by
 obtain ⟨e,s⟩:=H.grow (tm.new h (.cells wF 1 true ro (fi [y])));have g:ri (h.new (.cells wF 1 true ro (fi [y]))) 1 (.slice h.next 0 1)=some (1,fi [y]):=BS (k:=0) rfl;have J:(h.new (.cells wF 1 true ro (fi [y]))).next=h.next+1:=rfl;have hq:=e.ok i _ hi;generalize h.new (.cells wF 1 true ro (fi [y]))=b at*;have u:(xs.length+1)*ic<=1000000*1000:=Nat.mul_le_mul (by omega) q;have j:∃c h',c9 ty 1 ic v (.slice h.next 0 1) b=some (.val c h')/\ZJ ty F h' (xs++[y]) c/\tm (Loc v) b h'/\∀t,Loc c t->Loc v t\/b.next<=t:=by
  rcases hq with⟨rfl,rfl⟩|⟨t,pre,post,rfl,f,w,n,x,K⟩
  ·refine⟨.slice b.next 0 1,b.new (.cells ty 1 true false (fi [y])),?_,.inr ⟨b.next,[],[],rfl,Ls _,λl=>Wi _ (e.fl _ l),dL _ _,rfl,rfl⟩,tm.new _ _,by simp_all⟩;unfold c9;simp only[g,c0];show bB (dU (fi [y])) _=_;rw[iO _ (yc _),iO _ (show Nat.ble (Nat.mul 1 ic) 70368744177664=true from by grind[Mh]),iO _ (by rfl)]
  ·have e0:(pre++fi xs++post).length=pre.length+xs.length+post.length:=by rw[Ht,Ht,KD]
   cases post with
   | nil =>
     refine⟨.slice b.next 0 (xs.length+1),(b.put t (.cells ty 1 false false (pre++fi xs++[]))).new (.cells ty 1 true false (fi xs++fi [y])),?_,.inr ⟨b.next,[],[],by simp,Ls _,λl=>Wi _ (e.fl _ l),?_,rfl,rfl⟩,(tm.put (S:=Loc (.slice t pre.length xs.length)) _ rfl f).trans (tm.new _ _),by simp_all⟩
     ·unfold c9 gG
      have d:sub (pre++fi xs++[]) pre.length (Nat.mul xs.length 1)=some (fi xs):=by
        show sub (pre++fi xs++[]) pre.length (xs.length*1)=_;rw[yW (by omega),GK,List.drop_left,SI (by simp_all)]
      have a:Nat.ble (Nat.add pre.length (Nat.mul (Nat.add xs.length 1) 1)) (pre++fi xs++[]).length=false:=by
        rw[Vu];intro z;have:=EN z;rw[e0]at this;have m:Nat.add pre.length (Nat.mul (Nat.add xs.length 1) 1)=pre.length+(xs.length+1)*1:=rfl;rw[m]at this;simp at this;omega
      simp only[g,c0];show bB (dU (fi [y])) _=_;rw[iO _ (yc _)];simp only[n,c0,d,yc];rw[iO _ (by rfl),iO _ (by rfl),iO _ (OW _),a];simp only[oI];rw[iO _ (show Nat.ble (Nat.mul (Nat.add xs.length 1) ic) 70368744177664=true from by grind[Mh]),iO _ (show Nat.ble (Nat.add xs.length 1) 70368744177664=true from by grind[Mh])]
     ·simp only[GK,Pr,K3]
      exact dL (b.put t _) _
   | cons p post=>
     refine⟨.slice t pre.length (xs.length+1),b.put t (.cells ty 1 true false (pre++fi (xs++[y])++post)),?_,.inr ⟨t,pre,post,by simp,f,w,ie _ f,x,?_⟩,tm.put _ rfl f,by simp_all⟩
     ·unfold c9 gG
      have a:Nat.ble (Nat.add pre.length (Nat.mul (Nat.add xs.length 1) 1)) (pre++fi xs++p::post).length=true:=by
        refine Mh ?_;show pre.length+(xs.length+1)*1<=_;rw[e0,LU];omega
      have A:kV (Nat.add pre.length (Nat.mul xs.length 1)) (pre++fi xs++p::post) (fi [y])=some (pre++fi (xs++[y])++post):=by
        have B:(fi [y]).length=1:=rfl;have m:(pre++fi xs).length=pre.length+xs.length:=by rw[Ht,KD]
        rw[show Nat.add pre.length (Nat.mul xs.length 1)=pre.length+xs.length by simp_all,uq (by simp_all),B];congr 1;rw[<-m,List.take_left,K3,<-UJ,List.drop_left];simp
      simp only[g,c0];show bB (dU (fi [y])) _=_;rw[iO _ (yc _)];simp only[n,c0];rw[iO _ (by rfl),iO _ (by rfl),iO _ (OW _),a]
      simp_all
     simp_all
 obtain⟨c,h',C,D,o,E⟩:=j;obtain⟨G,I⟩:=e.xS (p:=Sh ty (xs++[y]) c) hi o D E;exact⟨c,h',C,by have:=o.next;omega,G,s.trans I⟩
theorem ED{a n:Nat}(b:a<n)(H:Q (.bool true) h):cP CS dQ [.I a,.I n] h Q:=by
 refine Bq rfl rfl ?_;unfold tO;refine cO (oD ..) ?_;simp only[c0,jZ,fW,kO];rw[Ka (show(0:Int)<=(a:Nat) by omega),Ka (show(a:Int)<(n:Nat) by omega)];exact H
theorem M8{op:Nat}(H:Q (.bool (BO op)) h):cP CS fM [.I op] h Q:=by
 refine yp rfl rfl ?_;unfold qL;refine cO (jZ ..) ?_;simp only[c0,fx,jG,kO];have e:(decide ((op:Int)<19) ||((op:Int) == 21))=BO op:=by
  unfold BO;rw[show((op:Int) == 21)=(op == 21) from So _ 21];congr 1;rw[decide_eq_decide];omega
 rw[e];exact H
theorem fJ.Ww{fs:List Fm}{f:V}(a:fJ eF F h fs f){i:Nat}{x:Fm}(d:fs[i]? =some x) :
  ∃l o a b,F l/\eX 4 f (.I i)=some (.ptr l o)/\df (.ptr l (o+2)) h=some a/\df (.ptr l (o+3)) h=some b/\fJ eN F h x.locals a/\fJ eN F h x.stack b:=by
 obtain⟨hi,rfl⟩:=gL.1 d;obtain⟨l,o,w,e,g,m,⟨a,b,rfl,j,k⟩,c⟩:=a.ix hi .i64;exact⟨l,o,a,b,e,g,c 2 a rfl,c 3 b rfl,j,k⟩
theorem yu:∀{fs:List Fm},(∀f∈fs,f.locals.length<=40/\f.stack.length<=60)->(ff fs).length<=fs.length*100
 |[],_=>by simp[ff]
 | f::fs,hf=>by
   have a:=yu (fs:=fs) (by simp_all)
   grind[Si,ff,Ht,LU]
theorem Im{fs:List Fm}{f:V}(B:cS F h cs)(hs:fJ eF F h fs f)(i:fs.length<=30/\∀f∈fs,f.locals.length<=40/\f.stack.length<=60)
  (H:∀F' h' v,Sn F h F' h'->cS F' h' cs->fJ eN F' h' (ff fs) v->Q v h'):cP CS gB [.agg [f]] h Q:=by
 refine yh rfl rfl ?_;unfold pt;refine kX B (by simp only[cY,hs.one];rfl) λt m u=>?_;generalize h.next=n at*;have m:cS F t (cW eN cT [] .cQ::cV n 50 [f]::cs):=m.add .nil λ_ h=>h
 refine uP (λk l h'=>∃(j:Nat) (v:V),l=[.ptr n 0,v,.I j]/\j+k=fs.length/\Sn F t F h'/\cS F h' (cW eN cT (ff (fs.take j)) v::cV n 50 [f]::cs)) ?_ (k:=fs.length)
  ⟨0,_,rfl,by omega,Sn.refl _ _,m⟩
 rintro k _ v _ C ⟨j,_,⟨⟩,hk,p,b⟩;unfold lH;have e:=(hs.since u).since p;refine cO (by rfl) (cO (b.ld 1 rfl rfl) (cO e.len ?_));by_cases hj:j<fs.length;rotate_left
 ·refine fq ?_;rw[SI (by omega)]at b;obtain⟨d,g,r3⟩:=b.gh 0 rfl;simp only[fY]at d;exact H _ _ _ ((u.trans p).trans g) d.tail.tail r3
 refine dZ ?_;obtain⟨l,o,a,c,D,w,E,x,G,I⟩:=e.Ww (fg hj);obtain⟨R,S⟩:=i.2 _ (ym hj);have hlen:=yu (fs:=fs.take j) λf J=>i.2 f (Yy J);rw[JQ]at hlen;have q:(ff (fs.take j)).length<=3000:=by
  have:=i.1;have:min j fs.length<=30:=by omega
  omega
 refine cO (by rfl) (cO (b.ld 1 rfl rfl) (cO w (cO (by rfl) (cO E (cO (by rfl) (cO (b.ld 1 rfl rfl) (cO w (cO (by rfl) (cO x ?_)))))))));obtain⟨y,z,K,n3,d,g⟩:=b.Ig 0 rfl (ic:=8) G (by decide) (by decide) (by omega);have r:c9 3 1 8 v a C=some (.val y z):=K;rw[r,cU];simp only[fY]at d;refine⟨n3,lV x (g.dO _ D),d.ld 1 rfl rfl,?_⟩;obtain⟨A,L,M,N,O,P⟩:=d.Ig 0 rfl (ic:=8) (I.since g) (by decide) (by decide) (by grind);have s:c9 3 1 8 y c z=some (.val A L):=M;rw[s,cU];simp only[fY]at O;refine⟨N,du ⟨k-1,by omega,j+1,A,rfl,by omega,(p.trans g).trans P,?_⟩⟩
 grind[ff,LV,Hq]
theorem Sk{xs:List Nat}{a b:V}(c:fJ eN F h xs a)(d:fJ eN F h xs b)(m:xs.length<1000000000)(H:Q (.bool true) h):cP CS jn [a,b] h Q:=by
 refine zN rfl rfl ?_;unfold rq;refine cO c.len (cO d.len (xM (ei rfl ?_)));refine xg (λk l h'=>∃i:Nat,l=[a,b,.I (i:Nat)]/\i+k=xs.length/\h' = h) ?_ (k:=xs.length) (by simp_all);rintro k _ _ _ h' ⟨i,⟨⟩,hk,rfl⟩;unfold ot;refine cO c.len ?_;by_cases hi:i<xs.length
 ·refine dZ ?_;obtain⟨l,o,_,e,f⟩:=c.nat (fg hi) .i64;obtain⟨n,p,_,g,j⟩:=d.nat (fg hi) .i64;refine cO e (cO f (cO g (cO j (xM (ei rfl ?_)))));exact du ⟨k-1,by omega,i+1,rfl,by omega,rfl⟩
 ·exact fq H
theorem QB(g:Good u)(N:cS F h cs)(m:zR F h u vv vb vs)(H:∀F' h' v,Sn F h F' h'->cS F' h' cs->fJ (eL eN) F' h' ((List.range u.blocks.length).map (Un.ahead u)) v->Q v h') :
  cP CS iS [.agg (uC u vv vb vs)] h Q:=by
 refine yy rfl rfl ?_;unfold qn;have nb:=g.nb;refine kX N m.one λc t x=>?_;generalize h.next=lu at*;refine oF (t.ld 0 rfl rfl) (cO (m.since x).b.len ?_);rw[hV (z:=V.cQ) rfl (by decide) (by omega),dC];obtain⟨A,O⟩:=t.Od (E:=eN) (LI:=fO) (ty:=cT) u.blocks.length;have n:List.replicate u.blocks.length ([]:List Nat)=(List.range u.blocks.length).map (eS u 0 0):=by
  refine List.ext_getElem (by simp) λi c P=>?_;simp[Dr]
 rw[n]at A
 refine vF (λk l h'=>∃(i:Nat) (ds:List V),l=[.ptr lu 0,.slice c.next 0 u.blocks.length,.I i]/\i+k=u.blocks.length/\Sn F h F h'/\
  cS F h' (Aw eN fO cT ((List.range u.blocks.length).map (eS u i 0)) (.slice c.next 0 u.blocks.length) ds::cV lu 29 (uC u vv vb vs)::cs)) ?_ (k:=u.blocks.length) ⟨0,_,rfl,by omega,x.trans O,A⟩
 rintro k _ _ _ R ⟨i,ds,⟨⟩,hk,C,D⟩;unfold mY;refine oF (D.ld 1 rfl rfl) (cO (m.since C).b.len ?_);by_cases hi:i<u.blocks.length;rotate_left
 ·refine fq ?_;obtain rfl:i=u.blocks.length:=by omega
  obtain ⟨S,T,U,G⟩:=D.ND 0 rfl;have e:(List.range u.blocks.length).map (eS u u.blocks.length 0)=(List.range u.blocks.length).map (Un.ahead u):=by
   refine(by grind[MU,kz])
  rw[e]at G;exact H S R _ (C.trans U) T.tail.tail G
 refine dZ ?_;obtain⟨B,o⟩:∃B,u.blocks[i]? =some B:=by simp_all
 have W:B.next.length<=2:=xr g o
 refine vR (λk l h'=>∃(j:Nat) (ds:List V),l=[.ptr lu 0,.slice c.next 0 u.blocks.length,.I i,.I j]/\
  j+k=B.next.length/\Sn F h F h'/\cS F h' (Aw eN fO cT ((List.range u.blocks.length).map (eS u i j)) (.slice c.next 0 u.blocks.length) ds::cV lu 29 (uC u vv vb vs)::cs)) ?_ (k:=B.next.length)
  (by grind)
 rintro X _ _ _ _ I ⟨j,f,⟨⟩,Y,p,q⟩;unfold nf;obtain⟨l7,o7,bv,bn,bp,_,J,_,_,K,_,L⟩:=(m.since p).jB o;refine oF (q.ld 1 rfl rfl) (cO J (oF L.next (cO K.len ?_)));by_cases hj:j<B.next.length;rotate_left
 ·refine fq ?_;obtain rfl:j=B.next.length:=by omega
  refine du ⟨k-1,by omega,i+1,f,rfl,by omega,p,?_⟩;have e:(List.range u.blocks.length).map (eS u (i+1) 0)=(List.range u.blocks.length).map (eS u i B.next.length):=by grind[MU,Di]
  grind
 refine dZ ?_;obtain⟨l8,o8,_,Z,j2⟩:=K.nat (fg hj) .i64;have r:B.next[j]<u.blocks.length:=g.nx i _ (by grind[next,ym]);have a:B.next[j]<((List.range u.blocks.length).map (eS u i j)).length:=by simpa using r
 have aa:((List.range u.blocks.length).map (eS u i j))[B.next[j]]'a=eS u i j B.next[j]:=by simp
 obtain ⟨l,d,d',h6,h7,hd,hl,M,e2,e3,e4,e5,e6,H7,s7⟩:=q.NM 0 rfl a (ic:=8) (wF:=3) (y:=i) (w:=[.I i]) (ro:=false) rfl (by decide) (by decide) (by
  grind[kj])
 refine oF (q.ld 1 rfl rfl) (cO J (oF L.next (cO Z (cO j2 (cO M (cO e2 ?_))))));rw[kH,dC];have s:c9 3 1 8 d (.slice I.next 0 1) (I.new (.cells 3 1 true false (fi [i])))=some (.val d' h6):=e3;rw[s,cU];refine cO M ?_;rw[e5,cU];simp only[fY]at H7;refine du ⟨X-1,by omega,j+1,f.set (B.next[j]) d',rfl,by omega,p.trans s7,?_⟩;have e:((List.range u.blocks.length).map (eS u i j)).set (B.next[j]) (((List.range u.blocks.length).map (eS u i j))[B.next[j]]'a++[i])=(List.range u.blocks.length).map (eS u i (j+1)):=by
  refine List.ext_getElem (by simp) λb c P=>?_;rw[List.getElem_set];simp only[List.getElem_map,List.getElem_range];rw[CH o (fg hj)];by_cases eb:B.next[j]=b
  ·simp_all
  ·grind
 simp_all
end
open Un Dm
section
variable{F F':Nat->Prop}{h h':Hp}{cs:List Pc}{Q:dg}{u:U}{vv vb vs nv:V}{Qz:List (List Nat)}
structure Zi (n:Nat) (nx:Nat->List Nat) (Qz:List (List Nat)):Prop where
 n0:0<n
 n3:n<=300
 len:Qz.length=n
 at_:∀b:Nat,b<n->Qz[b]? =some (nx b)
 two:∀b:Nat,b<n->(nx b).length<=2
 lt:∀b:Nat,b<n->∀t∈nx b,t<n
theorem GU{n:Nat}{nx:Nat->List Nat}(w:Zi n nx Qz)(zm:Int)(H0:cS F h cs)(hs:fJ (eL eN) F h Qz nv)
  (H:∀h' v seen,Sn F h F h'->cS F h' (cW eB fS seen v::cs)->seen.length=n->(∀b:Nat,seen[b]? =some true↔MA nx zm b)->Q v h') :
  cP CS fZ [nv,.I 0,.I zm] h Q:=by
 refine wN rfl rfl ?_;unfold nN;have n0:=w.n0;have n3:=w.n3;refine cO hs.len ?_;rw[w.len,hV (z:=V.bool false) rfl (by decide) (by omega),dC];obtain⟨T,U⟩:=H0.make (E:=eB) (ty:=fS) (y:=false) (u:=V.bool false) n rfl rfl;generalize h.new (.cells fS 1 true false (List.replicate n (V.bool false)))=h1 at*;generalize h.next=r at*;by_cases hb:zm=0
 ·refine eh (ei hb.symm (H h1 _ _ U T PU λb=>⟨λh=>?_,by grind[absurd,Pj]⟩))
  grind
 refine eh (dM (by omega) ?_);obtain⟨l2,o2,i,e1,e2,_,I,s2⟩:=T.D7 0 rfl (k:=0) (y:=true) (u:=V.bool true) (by simp_all) rfl rfl rfl;refine cO e1 ?_;rw[e2,cU];simp only[fY]at I;have ep:oX 3 1 1 (V.I 0) [(0,V.I 0)]=some (.cells 3 1 true false (fi [0]),λl=> .slice l 0 1):=rfl;rw[ep,dC]
 have J:cS F (i.new (.cells 3 1 true false (fi [0]))) (Sh cT [0] (.slice i.next 0 1)::cW eB fS ((List.replicate n false).set 0 true) (.slice r 0 n)::cs)/\Sn F i F (i.new (.cells 3 1 true false (fi [0]))):=
  I.new (p:=Sh cT [0] (.slice i.next 0 1)) _ (.inr ⟨i.next,[],[],rfl,Ls _,I.fresh,dL _ _,rfl,rfl⟩) λl e=>e.symm
 obtain⟨J,s3⟩:=J;generalize i.new (.cells 3 1 true false (fi [0]))=h3 at*;generalize i.next=lq at*;have K:=(U.trans s2).trans s3
 refine ud (λk l h'=>∃(seen:List Bool) (todo:List Nat) (s:V),l=[nv,.I zm,.slice r 0 n,s]/\k=todo.length+seen.count false/\Sn F h F h'/\Wo n nx zm none seen todo/\cS F h' (Sh cT todo s::cW eB fS seen (.slice r 0 n)::cs)) ?_ (k:=[0].length+((List.replicate n false).set 0 true).count false)
  ⟨_,_,_,rfl,rfl,K,Wo.start n0 hb,J⟩
 rintro k _ _ _ s h4 ⟨seen,todo,_,⟨⟩,hk,X,W,B⟩;unfold kZ;refine cO (B.YY 0 rfl) ?_
 cases todo with
 | nil=>
   refine BM (dM (by simp) ?_)
   exact H h4 _ seen X B.tail W.len W.iff
 | cons b todo=>
   refine BM (ei (by simp_all) ?_);obtain⟨la,oa,aa,x1,x2,x3,Y⟩:=B.Y8 0 rfl;refine cO x1 (cO x2 (cO x3 ?_));simp only[fY]at Y;obtain⟨W5,yf⟩:=W.pop;have o:b<n:=by
     have:=(gL.1 (W.work b (by simp))).1;rw[W.len]at this;exact this
   have ab:=w.two b o
   refine ue (λC l h'=>∃(j:Nat) (a:List Bool) (d:List Nat) (s:V),l=[nv,.I zm,.slice r 0 n,s,.I (b:Nat),.I (j:Nat)]/\j+C=(nx b).length/\d.length+a.count false+1<=k/\Sn F h F h'/\Wo n nx zm (some (b,j)) a d/\cS F h' (Sh cT d s::cW eB fS a (.slice r 0 n)::cs)) ?_ (k:=(nx b).length)
     (by grind)
   clear Y B W5 W X;rintro C _ _ _ q _ _ h6 ⟨j,f,g,_,⟨⟩,ac,L,D,x,G⟩;unfold lh;obtain⟨lb,ob,wb,_,Z,y2,wr⟩:=(hs.since D).list (w.at_ b o) .i64;refine cO Z (cO y2 (cO wr.len ?_));by_cases hj:j<(nx b).length
   ·refine dZ ?_
    have M:=fg hj;have ae:=w.lt b o _ (ym hj);generalize (nx b)[j]=t at*;obtain⟨lc,oc,_,z1,z2⟩:=wr.nat M .i64;refine cO Z (cO y2 (cO z1 (cO z2 (cO (mf ..) ?_))));have ag:=x.len;obtain⟨c,hc⟩:∃c,f[t]? =some c:=by simp_all
    obtain ⟨ld,od,q1,q2⟩:=G.EF 1 rfl hc .i64;rw[show il (.bool ((t:Int) != zm)) (oB (some (V.slice r 0 n)) λN=>oB (some (V.I (t:Nat))) λO=>oB (eX 1 N O) λP=>oB (df P h6) λR=>lB .not R)=some (.bool (((t:Int) != zm)&&!c)) from by
      simp_all]
    rw[kO];refine fK ?_;have ah:=x.less;by_cases cnd:(t:Int)≠zm/\c=false
    ·refine ei (by simp_all) ?_
     rw[cnd.2]at hc;obtain⟨le,oe,h7,e7,e8,_,H7,s7⟩:=G.D7 1 rfl (k:=t) (y:=true) (u:=V.bool true) (by omega) rfl rfl rfl;refine cO e7 ?_;rw[e8,cU];simp only[fY,jq]at H7;rw[kH,dC];obtain⟨A,h8,e9,_,H8,s8⟩:=H7.XR 0 rfl (ic:=8) (wF:=3) (y:=t) (ro:=false) (by decide) (by omega);have S:c9 3 1 8 q (.slice h7.next 0 1) (h7.new (.cells 3 1 true false (fi [t])))=some (.val A h8):=e9;rw[S,cU];simp only[fY]at H8;refine kL ?_;unfold iI;refine sc (m:=1) (by omega) (by omega) ⟨C-1,by omega,j+1,_,_,A,rfl,by omega,?_,(D.trans s7).trans s8,x.push M yf cnd.1 hc,H8⟩
     grind
    ·refine dM (λh=>cnd ?_) ?_
     ·simp_all
     refine kL ?_;unfold iI;refine sc (m:=1) (by omega) (by omega) ⟨C-1,by omega,j+1,_,_,q,rfl,by omega,L,D,x.skip M ?_,G⟩
     grind
   ·refine fq ?_
    obtain rfl:j=(nx b).length:=by omega
    exact⟨g.length+f.count false,by omega,f,g,q,rfl,rfl,D,x.next,G⟩
theorem Rc:(Tx).rel F h .cQ [.cQ]:=⟨rfl,rfl⟩
def WE(n:Nat)(nx:Nat->List Nat)(Ho:List (List Bool)):Prop:=Ho.length=n/\∀a:Nat,a<n->∃row,Ho[a]? =some row/\row.length=n/\∀b:Nat,b<n->(row[b]? =some true↔lE nx a b)
theorem TK{n:Nat}{nx:Nat->List Nat}(w:Zi n nx Qz)(U:cS F h cs)(hs:fJ (eL eN) F h Qz nv)
  (H:∀F' h' v Ho,Sn F h F' h'->cS F' h' cs->fJ (eL eB) F' h' Ho v->WE n nx Ho->Q v h') :
  cP CS jk [nv,.I 0] h Q:=by
 refine zG rfl rfl ?_;unfold rU;have n0:=w.n0;have n3:=w.n3;refine cO hs.len ?_;rw[w.len,hV (z:=V.cQ) rfl (by decide) (by omega),dC];obtain⟨W,X⟩:=U.make (E:=Tx) (ty:=Ft) (y:= .cQ) (u:= .cQ) n Rc rfl;generalize h.new (.cells Ft 1 true false (List.replicate n V.cQ))=h1 at*;generalize h.next=r at*
 refine xk (λk l h'=>∃(F':Nat->Prop) (a:Nat) (ds:List V) (Ho:List (List Bool)),l=[nv,.I 0,.slice r 0 n,.I a]/\a+k=n/\Sn F h F' h'/\cS F' h' (cW Tx Ft ds (.slice r 0 n)::cs)/\ds.length=n/\Ho.length=n/\
   ∀c:Nat,c<a->∃row d,Ho[c]? =some row/\ds[c]? =some d/\fJ eB F' h' row d/\row.length=n/\∀b:Nat,b<n->(row[b]? =some true↔lE nx c b)) ?_ (k:=n)
  ⟨F,0,_,List.replicate n [],rfl,by omega,X,W,PU,PU,by omega⟩
 rintro k _ _ _ _ J ⟨s,a,ds,Ho,⟨⟩,hk,t,K,Y,B,f⟩;unfold nM;refine cO (hs.since t).len ?_;rw[w.len];by_cases ha:a<n;rotate_left
 ·refine fq ?_;obtain rfl:a=n:=by omega
  obtain⟨x,j,r3⟩:=K.gh 0 rfl;simp only[fY]at x;refine H _ J _ Ho (t.trans j) x.tail (r3.PA (E':=eL eB) rfl (by simp_all) (by omega) λc d row ws Z L hw=>?_) ⟨B,λc hc=>?_⟩
  ·have C:=(gL.1 L).1;obtain⟨M,d',g,i,D,_⟩:=f c (by omega);rw[Z]at i;rw[L]at g;cases g;cases i;obtain⟨rfl,_⟩:=hw;exact⟨d,rfl,D.mono j.mono⟩
  grind
 refine dZ ?_;refine GU w (a:Nat) K (hs.since t) λN O seen j x aa ab=>?_;have m:=t.trans j;refine cO (hs.since m).len ?_;rw[w.len,hV (z:=V.bool false) rfl (by decide) (by omega),dC];obtain⟨H4,P⟩:=x.make (E:=eB) (ty:=fS) (y:=false) (u:=V.bool false) n rfl rfl;generalize N.new (.cells fS 1 true false (List.replicate n (V.bool false)))=h4 at*;generalize N.next=lr at*;obtain⟨l5,o5,h5,g,i,_,H5,R⟩:=H4.D7 2 rfl (k:=a) (y:=V.slice lr 0 n) (u:=V.slice lr 0 n) (by omega) rfl rfl ⟨rfl,rfl⟩;refine cO g ?_;rw[i,cU];simp only[fY,jq]at H5;have ac:=(m.trans P).trans R;have ae:=(j.trans P).trans R
 refine wZ (λG l h'=>∃(b:Nat) (cur:List Bool),l=[nv,.I 0,.slice r 0 n,.I a,O,.I b]/\b+G=n/\Sn F h s h'/\Sn s J s h'/\cur.length=n/\(∀c:Nat,c<b->(cur[c]? =some true↔lE nx a c))/\
   cS s h' (cW eB fS cur (.slice lr 0 n)::cW eB fS seen O::cW Tx Ft (ds.set a (.slice lr 0 n)) (.slice r 0 n)::cs)) ?_ (k:=n)
  (by grind)
 rintro G _ _ _ _ _ _ h6 ⟨b,cur,⟨⟩,ag,I,o,C,S,A⟩;unfold oH;refine cO (hs.since I).len ?_;rw[w.len];by_cases hb:b<n
 ·refine dZ ?_;obtain⟨lx,ox,dx,x1,x2,T⟩:=A.Np 2 rfl (k:=a) (by simp_all) .i64 rfl;have hg:(ds.set a (V.slice lr 0 n))[a]'(by simp_all)=V.slice lr 0 n:=List.getElem_set_self _;rw[hg]at T;obtain rfl:dx=V.slice lr 0 n:=by have:=T.1;simp_all
  obtain⟨c,hc⟩:∃c,seen[b]? =some c:=by simp_all
  obtain⟨ly,oy,y1,y2⟩:=A.EF 1 rfl hc .i64;refine cO x1 (cO x2 (cO y1 (cO y2 (IY ?_))));obtain⟨lz,oz,h7,z1,z2,zn,p,q⟩:=A.D7 0 rfl (k:=b) (y:=!c) (u:=V.bool (!c)) (by omega) rfl rfl rfl;refine cO z1 ?_;rw[z2,cU];simp only[fY]at p;refine⟨zn,du ⟨G-1,by omega,b+1,_,rfl,by omega,I.trans q,o.trans q,by simp_all,λe he=>?_,p⟩⟩
  grind[HT,Pz,CL]
 ·refine fq ?_;obtain rfl:b=n:=by omega
  obtain⟨p,q,r7⟩:=A.gh 0 rfl;simp only[fY]at p;refine du ⟨k-1,by omega,_,a+1,_,Ho.set a cur,rfl,by omega,I.trans q,p.tail.tail,by simp_all,by simp_all,λc hc=>?_⟩;by_cases e:c=a
  ·simp_all
  ·rw[CL (by omega),CL (by omega)];obtain⟨row,d,g,i,D,e4⟩:=f c (by omega);exact⟨row,d,g,i,(D.since o).since q,e4⟩
structure V2 (u:U) (jB BQ:List Nat) (Ho:List (List Bool)):Prop where
 at_:∀(v b k:Nat),At u v b k->jB[v]? =some b/\BQ[v]? =some k
 LW:WE u.blocks.length (next u) Ho
def Oe(u:U)(vv vb vs wb wp wd:V):List V:=[.I u.func,.I u.pc,vv,vb,vs,wb,wp,wd]
variable{jB BQ:List Nat}{Ho:List (List Bool)}{wb wp wd:V}
theorem AP(o:V2 u jB BQ Ho)(C:cS F h cs)(i:zR F h u vv vb vs)(y:fJ eN F h jB wb)(z:fJ eN F h BQ wp)(A:fJ (eL eB) F h Ho wd){a b k c j:Nat}(e:At u a c j)(l:b<u.blocks.length)(hs:c=b/\j<k\/c≠b/\lE (next u) c b)
  (H:∀h',Sn F h F h'->cS F h' cs->Q (.bool true) h'):cP CS eo [.agg (Oe u vv vb vs wb wp wd),.I a,.I b,.I k] h Q:=by
 refine tw rfl rfl ?_;unfold kP;obtain⟨D,E⟩:=o.at_ a c j e;refine kX C (by simp only[Oe,cY,i.v.one,i.b.one,i.s.one,y.one,z.one,A.one];rfl) λd f g=>?_;generalize h.next=lx at*;obtain⟨l1,O,_,G,I⟩:=(y.since g).nat D .i64;obtain⟨l2,P,_,R,S⟩:=(z.since g).nat E .i64;have J:df (.ptr lx (0+5)) d=some wb:=f.ld 0 rfl rfl;have T:df (.ptr lx (0+6)) d=some wp:=f.ld 0 rfl rfl;have U:df (.ptr lx (0+7)) d=some wd:=f.ld 0 rfl rfl;have m:c<u.blocks.length:=by
  obtain⟨B,W,_⟩:=e;exact by grind
 obtain ⟨row,r1,X,r3⟩:=o.LW.2 c m;obtain⟨l3,Y,Z,_,z1,z2,K⟩:=(A.since g).list r1 .i64;have hq:=H d g f.tail;refine cO (by rfl) (cO J (cO G (cO I (cO (fx ..) ?_))));rw[show il (.bool ((c:Int) == (b:Int))) (oB (dE 6 (V.ptr lx 0)) λn=>oB (df n d) λp=>oB (some (V.I a)) λq=>oB (eX 1 p q) λr=>oB (df r d) λt=>oB (some (V.I k)) λw=>cX .lss 3 t w)=some (.bool (((c:Int) == (b:Int))&&decide ((j:Int)<k))) from by
  simp_all]
 rw[kO];rcases hs with⟨rfl,L⟩|⟨L,M⟩
 ·rw[show(((c:Int) == (c:Int))&&decide ((j:Int)<k))=true by rw[rm];exact⟨by simp,Ka (by omega)⟩];exact cO rfl hq
 ·have x:=(r3 b l).2 M;obtain⟨l4,o4,_,w1,w2⟩:=K.bool x .i64;rw[show(((c:Int) == (b:Int))&&decide ((j:Int)<k))=false by grind];have N:((c:Int) != (b:Int))=true:=by rw[bne_iff_ne];omega
  refine cO (a:= .bool true) ?_ hq
  simp_all
theorem Ih(o:V2 u jB BQ Ho)(g:Good u)(I:cS F h cs)(e:zR F h u vv vb vs)(B:fJ eN F h jB wb)(C:fJ eN F h BQ wp)(D:fJ (eL eB) F h Ho wd){s b k:Nat}{fs:List Fm}(a:u.cZ[s]? =some fs)(p:b<u.blocks.length)(hs:∀w∈ff fs,∃c j,At u w c j/\(c=b/\j<k\/c≠b/\lE (next u) c b))
  (H:∀F' h',Sn F h F' h'->cS F' h' cs->Q (.bool true) h'):cP CS fw [.agg (Oe u vv vb vs wb wp wd),.I s,.I b,.I k] h Q:=by
 refine tq rfl rfl ?_;unfold kM;refine kX I (by simp only[Oe,cY,e.v.one,e.b.one,e.s.one,B.one,C.one,D.one];rfl) λY E G=>?_;generalize h.next=lx at*;have u1:=e.since G;obtain⟨l1,Z,f,_,J,K,_,L⟩:=u1.st a;refine cO (by rfl) (cO (by rfl) (cO (E.ld 0 rfl rfl) (cO J (cO K ?_))));refine Im E L (by grind[AZ]) λm M N O P R=>?_;have S:=yu (fs:=fs) (AZ g s fs a).2;have:=(AZ g s fs a).1;have q:=G.trans O
 refine rl (λr l h'=>∃i:Nat,l=[.I b,.I k,.ptr lx 0,N,.I (i:Nat)]/\i+r=(ff fs).length/\Sn F h m h'/\Sn m M m h'/\cS m h' (cV lx _ (Oe u vv vb vs wb wp wd)::cs)) ?_ (k:=(ff fs).length)
  ⟨0,rfl,by omega,q,Sn.refl _ _,P⟩
 rintro r _ _ _ _ _ T ⟨i,⟨⟩,hk,d,n,t⟩;unfold jU;have r3:=R.since n;refine cO r3.len ?_;by_cases hi:i<(ff fs).length
 ·refine dZ ?_;have U:=fg hi;obtain⟨c,j,y,z⟩:=hs _ (ym hi);generalize (ff fs)[i]=x at*;obtain⟨l4,o4,_,V,W⟩:=r3.nat U .i64;refine cO (t.zt 0 rfl rfl) (cO V (cO W ?_));refine AP o t (e.since d) (B.since d) (C.since d) (D.since d) y p z λh4 A X=>?_;refine⟨A.next,qI (ei rfl ?_)⟩;exact du ⟨r-1,by omega,i+1,rfl,by omega,d.trans A,n.trans A,X⟩
 ·exact fq (H m T d t.tail)
end
