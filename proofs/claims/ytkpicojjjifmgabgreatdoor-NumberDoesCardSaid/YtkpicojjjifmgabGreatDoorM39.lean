/- Parts. -/
import Derived.Test.YtkpicojjjifmgabGreatDoorM28
import Derived.Test.YtkpicojjjifmgabGreatDoorM36
set_option maxHeartbeats 4000000
namespace Go.Proofs.YtkpicojjjifmgabGreatDoor.Hx
open Un Dm
def QuR(ty:Nat)(F:Nat->Prop)(h:Hp)(xs:List Nat)(v:V):Prop:=(v = .ei/\xs=[])\/∃t pre post,v = .slice t pre.length xs.length/\t<h.next/\¬F t/\h.get t=some (.cells ty 1 true false (pre++ic xs++post))/\gw pre=true/\gw post=true
def ZQ(ty:Nat)(xs:List Nat)(v:V):Pc where
 mn:=Loc v
 ok F h:=QuR ty F h xs v
 MB:=λ{F h} a l b=>by
  rcases a with⟨rfl,_⟩|⟨t,pre,post,rfl,c,d,_⟩
  ·exact b.elim
  simp_all
 fj:=λ{F h h'} a _ b f=>by
  rcases a with a|⟨t,pre,post,rfl,c,d,e,g⟩
  ·exact .inl a
  ·exact .inr ⟨t,pre,post,rfl,EK c f,d,by simp_all,g⟩
 mono:=λ{F F' h} a _ b=>by
  rcases a with a|⟨t,pre,post,rfl,c,d,e⟩
  ·exact .inl a
  ·exact .inr ⟨t,pre,post,rfl,c,b t rfl,e⟩
def zbp:qp V where
 sz:=1
 rel _ _ n cs:=cs=[n]/\n.one=true
 len h:=by simp_all
 one h:=by simp_all
 fj _ h:=h
 mono _ h:=h
section
variable{F F':Nat->Prop}{h h':Hp}{cs:List Pc}{Q:fD}{u:U}{vv vb vs:V}
theorem SW(xs:List Nat):(ic xs).length=xs.length:=Ik ..
theorem Es:∀xs:List Nat,gw (ic xs)=true
 |[]=>rfl
 | x::xs=>by
   show gw (V.I (x:Nat)::ic xs)=true;rw[eJ,Es xs];rfl
theorem SU(xs ys:List Nat):ic (xs++ys)=ic xs++ic ys:=Lj ..
theorem eo.zfe(H:eo F h cs)(i:Nat){ty:Nat}{xs:List Nat}{v:V}(hi:cs[i]? =some (ZQ ty xs v)):fI v=some (.I xs.length):=by
 rcases H.ok i _ hi with⟨rfl,rfl⟩|⟨t,pre,post,rfl,_⟩ <;> rfl
theorem eo.zfm(H:eo F h cs)(i:Nat){ty x:Nat}{xs:List Nat}{v:V}(hi:cs[i]? =some (ZQ ty (x::xs) v)) :
  ∃l o b,gB 1 v (.I 0)=some (.ptr l o)/\fe (.ptr l o) h=some (.I x)/\jA 1 v (some (.I 1)) none h=some b/\eo F h (cs.set i (ZQ ty xs b)):=by
 rcases H.ok i _ hi with⟨_,a⟩|⟨t,pre,post,rfl,a,d,c,e,f⟩
 ·cases a
 ·refine⟨t,pre.length+0*1,.slice t (pre.length+1*1) ((x::xs).length-1),by rfl,lJ c ?_,?_,H.swap hi (.inr ⟨t,pre++[V.I x],post,?_,a,d,?_,?_,f⟩) λ_ h=>h⟩
  ·rw[Lb,Nat.zero_mul,wBu,VG (jO _),Nat.sub_self];rfl
  ·unfold jA kK;simp only[c,fo,GS];rw[show hbound 0 (some (V.I 1))=some 1 from rfl,fo,nt _ (W8 _),nt _ (by rfl),nt _ (by simp_all)];rfl
  ·simp
  ·grind[ic]
  ·rw[oZ,e];rfl
theorem eo.ze3(H:eo F h cs)(i:Nat){ty jP zL y:Nat}{ro:Bool}{xs:List Nat}{v:V}(hi:cs[i]? =some (ZQ ty xs v))(hb:jP<=1000)(o:xs.length<1000000) :
  ∃c h',fh ty 1 jP v (.slice h.next 0 1) (h.new (.cells zL 1 true ro (ic [y])))=some (.val c h')/\h.next+1<=h'.next/\eo F h' (cs.set i (ZQ ty (xs++[y]) c))/\Sn F h F h':=by
 obtain ⟨e,q⟩:=H.grow (mA.new h (.cells zL 1 true ro (ic [y])));have hx:lQ (h.new (.cells zL 1 true ro (ic [y]))) 1 (.slice h.next 0 1)=some (1,ic [y]):=nz (k:=0) rfl;have G:(h.new (.cells zL 1 true ro (ic [y]))).next=h.next+1:=rfl;have hq:=e.ok i _ hi;generalize h.new (.cells zL 1 true ro (ic [y]))=b at*;have r:(xs.length+1)*jP<=1000000*1000:=Nat.mul_le_mul (by omega) hb;have g:∃c h',fh ty 1 jP v (.slice h.next 0 1) b=some (.val c h')/\QuR ty F h' (xs++[y]) c/\mA (Loc v) b h'/\∀t,Loc c t->Loc v t\/b.next<=t:=by
  rcases hq with⟨rfl,rfl⟩|⟨t,pre,post,rfl,f,s,m,u,I⟩
  ·refine⟨.slice b.next 0 1,b.new (.cells ty 1 true false (ic [y])),?_,.inr ⟨b.next,[],[],rfl,OF _,λj=>ZS _ (e.fl _ j),fq _ _,rfl,rfl⟩,mA.new _ _,by simp_all⟩;unfold fh;simp only[hx,fo];show bB (gw (ic [y])) _=_;rw[nt _ (Es _),nt _ (show Nat.ble (Nat.mul 1 jP) 70368744177664=true from by grind[UQ]),nt _ (by rfl)]
  ·have e0:(pre++ic xs++post).length=pre.length+xs.length+post.length:=by rw[KC,KC,SW]
   cases post with
   | nil =>
     refine⟨.slice b.next 0 (xs.length+1),(b.put t (.cells ty 1 false false (pre++ic xs++[]))).new (.cells ty 1 true false (ic xs++ic [y])),?_,.inr ⟨b.next,[],[],by simp,OF _,λj=>ZS _ (e.fl _ j),?_,rfl,rfl⟩,(mA.put (S:=Loc (.slice t pre.length xs.length)) _ rfl f).trans (mA.new _ _),by simp_all⟩
     ·unfold fh kK
      have d:sub (pre++ic xs++[]) pre.length (Nat.mul xs.length 1)=some (ic xs):=by
        show sub (pre++ic xs++[]) pre.length (xs.length*1)=_;rw[EO (by omega),JL,List.drop_left,ZJ (by simp_all)]
      have a:Nat.ble (Nat.add pre.length (Nat.mul (Nat.add xs.length 1) 1)) (pre++ic xs++[]).length=false:=by
        rw[wBj];intro w;have:=KS w;rw[e0]at this;have l:Nat.add pre.length (Nat.mul (Nat.add xs.length 1) 1)=pre.length+(xs.length+1)*1:=rfl;rw[l]at this;simp at this;omega
      simp only[hx,fo];show bB (gw (ic [y])) _=_;rw[nt _ (Es _)];simp only[m,fo,d,Es];rw[nt _ (by rfl),nt _ (by rfl),nt _ (W8 _),a];simp only[oV];rw[nt _ (show Nat.ble (Nat.mul (Nat.add xs.length 1) jP) 70368744177664=true from by grind[UQ]),nt _ (show Nat.ble (Nat.add xs.length 1) 70368744177664=true from by grind[UQ])]
     ·simp only[JL,OG,SU]
      exact fq (b.put t _) _
   | cons p post=>
     refine⟨.slice t pre.length (xs.length+1),b.put t (.cells ty 1 true false (pre++ic (xs++[y])++post)),?_,.inr ⟨t,pre,post,by simp,f,s,gj _ f,u,?_⟩,mA.put _ rfl f,by simp_all⟩
     ·unfold fh kK
      have a:Nat.ble (Nat.add pre.length (Nat.mul (Nat.add xs.length 1) 1)) (pre++ic xs++p::post).length=true:=by
        refine UQ ?_;show pre.length+(xs.length+1)*1<=_;rw[e0,Rt];omega
      have x:qv (Nat.add pre.length (Nat.mul xs.length 1)) (pre++ic xs++p::post) (ic [y])=some (pre++ic (xs++[y])++post):=by
        have z:(ic [y]).length=1:=rfl;have l:(pre++ic xs).length=pre.length+xs.length:=by rw[KC,SW]
        rw[show Nat.add pre.length (Nat.mul xs.length 1)=pre.length+xs.length by simp_all,AM (by simp_all),z];congr 1;rw[<-l,List.take_left,SU,<-wBf,List.drop_left];simp
      simp only[hx,fo];show bB (gw (ic [y])) _=_;rw[nt _ (Es _)];simp only[m,fo];rw[nt _ (by rfl),nt _ (by rfl),nt _ (W8 _),a]
      simp_all
     simp_all
 obtain⟨c,h',A,B,n,C⟩:=g;obtain⟨D,E⟩:=e.Cq (p:=ZQ ty (xs++[y]) c) hi n B C;exact⟨c,h',A,by have:=n.next;omega,D,q.trans E⟩
theorem L6{a n:Nat}(b:a<n)(H:Q (.bool true) h):cP CS gP [.I a,.I n] h Q:=by
 refine Io rfl rfl ?_;unfold zZ;refine eh (pP ..) ?_;simp only[fo,kX,j8,iB];rw[JM (show(0:Int)<=(a:Nat) by omega),JM (show(a:Int)<(n:Nat) by omega)];exact H
theorem Uv{op:Nat}(H:Q (.bool (IM op)) h):cP CS jU [.I op] h Q:=by
 refine E3 rfl rfl ?_;unfold xK;refine eh (kX ..) ?_;simp only[fo,g0,pS,iB];have e:(decide ((op:Int)<19) ||((op:Int) == 21))=IM op:=by
  unfold IM;rw[show((op:Int) == 21)=(op == 21) from ieq _ 21];congr 1;rw[decide_eq_decide];omega
 rw[e];exact H
theorem im.zeK{fs:List Fm}{f:V}(a:im eF F h fs f){i:Nat}{x:Fm}(hx:fs[i]? =some x) :
  ∃l o a b,F l/\gB 4 f (.I i)=some (.ptr l o)/\fe (.ptr l (o+2)) h=some a/\fe (.ptr l (o+3)) h=some b/\im eN F h x.locals a/\im eN F h x.stack b:=by
 obtain⟨hi,rfl⟩:=ki.1 hx;obtain⟨l,o,w,d,e,k,⟨a,b,rfl,g,j⟩,c⟩:=a.ix hi .i64;exact⟨l,o,a,b,d,e,c 2 a rfl,c 3 b rfl,g,j⟩
theorem EP:∀{fs:List Fm},(∀f∈fs,f.locals.length<=40/\f.stack.length<=60)->(ik fs).length<=fs.length*100
 |[],_=>by simp[ik]
 | f::fs,hf=>by
   have a:=EP (fs:=fs) (by simp_all)
   grind[ZP,ik,KC,Rt]
theorem Pb{fs:List Fm}{f:V}(B:eo F h cs)(hs:im eF F h fs f)(i:fs.length<=30/\∀f∈fs,f.locals.length<=40/\f.stack.length<=60)
  (H:∀F' h' v,Sn F h F' h'->eo F' h' cs->im eN F' h' (ik fs) v->Q v h'):cP CS kI [.agg [f]] h Q:=by
 refine Dy rfl rfl ?_;unfold wF;refine jH B (by simp only[eJ,hs.one];rfl) λt m u=>?_;generalize h.next=n at*;have m:eo F t (fg eN eR [] .ei::eQ n 52 [f]::cs):=m.add .nil λ_ h=>h
 refine A8 (λk l h'=>∃(j:Nat) (v:V),l=[.ptr n 0,v,.I j]/\j+k=fs.length/\Sn F t F h'/\eo F h' (fg eN eR (ik (fs.take j)) v::eQ n 52 [f]::cs)) ?_ (k:=fs.length)
  ⟨0,_,rfl,by omega,Sn.refl _ _,m⟩
 rintro k _ v _ C ⟨j,_,⟨⟩,P,p,b⟩;unfold rL;have e:=(hs.since u).since p;refine eh (by rfl) (eh (b.ld 1 rfl rfl) (eh e.len ?_));by_cases hj:j<fs.length;rotate_left
 ·refine iQ ?_;rw[ZJ (by omega)]at b;obtain⟨d,g,r3⟩:=b.kL 0 rfl;simp only[ji]at d;exact H _ _ _ ((u.trans p).trans g) d.tail.tail r3
 refine gK ?_;obtain⟨l,o,a,c,D,w,E,x,G,I⟩:=e.zeK (iy hj);obtain⟨R,S⟩:=i.2 _ (AY hj);have hlen:=EP (fs:=fs.take j) λf J=>i.2 f (wBb J);rw[Mq]at hlen;have q:(ik (fs.take j)).length<=3000:=by
  have:=i.1;have:min j fs.length<=30:=by omega
  omega
 refine eh (by rfl) (eh (b.ld 1 rfl rfl) (eh w (eh (by rfl) (eh E (eh (by rfl) (eh (b.ld 1 rfl rfl) (eh w (eh (by rfl) (eh x ?_)))))))));obtain⟨y,z,K,n3,d,g⟩:=b.Nf 0 rfl (jP:=8) G (by decide) (by decide) (by omega);have r:fh 3 1 8 v a C=some (.val y z):=K;rw[r,en];simp only[ji]at d;refine⟨n3,iA x (g.fj _ D),d.ld 1 rfl rfl,?_⟩;obtain⟨A,L,M,N,O,s4⟩:=d.Nf 0 rfl (jP:=8) (I.since g) (by decide) (by decide) (by grind);have s:fh 3 1 8 y c z=some (.val A L):=M;rw[s,en];simp only[ji]at O;refine⟨N,fL ⟨k-1,by omega,j+1,A,rfl,by omega,(p.trans g).trans s4,?_⟩⟩
 grind[ik,MU,Lb]
theorem zaE{xs:List Nat}{a b:V}(c:im eN F h xs a)(hb:im eN F h xs b)(j:xs.length<1000000000)(H:Q (.bool true) h):cP CS nV [a,b] h Q:=by
 refine Gc rfl rfl ?_;unfold yu;refine eh c.len (eh hb.len (yj (gz rfl ?_)));refine CI (λk l h'=>∃i:Nat,l=[a,b,.I (i:Nat)]/\i+k=xs.length/\h' = h) ?_ (k:=xs.length) (by simp_all);rintro k _ _ _ h' ⟨i,⟨⟩,m,rfl⟩;unfold ug;refine eh c.len ?_;by_cases hi:i<xs.length
 ·refine gK ?_;obtain⟨l,o,_,d,e⟩:=c.nat (iy hi) .i64;obtain⟨n,p,_,f,g⟩:=hb.nat (iy hi) .i64;refine eh d (eh e (eh f (eh g (yj (gz rfl ?_)))));exact fL ⟨k-1,by omega,i+1,rfl,by omega,rfl⟩
 ·exact iQ H
theorem X3(g:Good u)(O:eo F h cs)(m:wW F h u vv vb vs)(H:∀F' h' v,Sn F h F' h'->eo F' h' cs->im (eL eN) F' h' ((List.range u.blocks.length).map (Un.ahead u)) v->Q v h') :
  cP CS na [.agg (uC u vv vb vs)] h Q:=by
 refine Fl rfl rfl ?_;unfold xJ;have nb:=g.nb;refine jH O m.one λc t x=>?_;generalize h.next=lu at*;refine oF (t.ld 0 rfl rfl) (eh (m.since x).b.len ?_);rw[ku (z:=V.ei) rfl (by decide) (by omega),fE];obtain⟨A,P⟩:=t.Q7 (E:=eN) (PC:=iZ) (ty:=eR) u.blocks.length;have n:List.replicate u.blocks.length ([]:List Nat)=(List.range u.blocks.length).map (iI u 0 0):=by
  refine wBy (by simp) λi c R=>?_;simp[Ky]
 rw[n]at A
 refine B5 (λk l h'=>∃(i:Nat) (ds:List V),l=[.ptr lu 0,.slice c.next 0 u.blocks.length,.I i]/\i+k=u.blocks.length/\Sn F h F h'/\
  eo F h' (Cd eN iZ eR ((List.range u.blocks.length).map (iI u i 0)) (.slice c.next 0 u.blocks.length) ds::eQ lu 30 (uC u vv vb vs)::cs)) ?_ (k:=u.blocks.length) ⟨0,_,rfl,by omega,x.trans P,A⟩
 rintro k _ _ _ S ⟨i,ds,⟨⟩,hk,C,D⟩;unfold tI;refine oF (D.ld 1 rfl rfl) (eh (m.since C).b.len ?_);by_cases hi:i<u.blocks.length;rotate_left
 ·refine iQ ?_;obtain rfl:i=u.blocks.length:=by omega
  obtain ⟨T,U,s4,G⟩:=D.QO 0 rfl;have e:(List.range u.blocks.length).map (iI u u.blocks.length 0)=(List.range u.blocks.length).map (Un.ahead u):=by
   refine(by grind[Xp,pY])
  rw[e]at G;exact H T S _ (C.trans s4) U.tail.tail G
 refine gK ?_;obtain⟨B,o⟩:∃B,u.blocks[i]? =some B:=by simp_all
 have W:B.next.length<=2:=Ei g o
 refine BF (λk l h'=>∃(j:Nat) (ds:List V),l=[.ptr lu 0,.slice c.next 0 u.blocks.length,.I i,.I j]/\
  j+k=B.next.length/\Sn F h F h'/\eo F h' (Cd eN iZ eR ((List.range u.blocks.length).map (iI u i j)) (.slice c.next 0 u.blocks.length) ds::eQ lu 30 (uC u vv vb vs)::cs)) ?_ (k:=B.next.length)
  (by grind)
 rintro X _ _ _ _ I ⟨j,f,⟨⟩,Y,p,q⟩;unfold sO;obtain⟨l7,o7,bv,bn,bp,_,J,_,_,K,_,L⟩:=(m.since p).pE o;refine oF (q.ld 1 rfl rfl) (eh J (oF L.next (eh K.len ?_)));by_cases hj:j<B.next.length;rotate_left
 ·refine iQ ?_;obtain rfl:j=B.next.length:=by omega
  refine fL ⟨k-1,by omega,i+1,f,rfl,by omega,p,?_⟩;have e:(List.range u.blocks.length).map (iI u (i+1) 0)=(List.range u.blocks.length).map (iI u i B.next.length):=by grind[Xp,Km]
  grind
 refine gK ?_;obtain⟨l8,o8,_,Z,j2⟩:=K.nat (iy hj) .i64;have r:B.next[j]<u.blocks.length:=g.nx i _ (by grind[next,AY]);have a:B.next[j]<((List.range u.blocks.length).map (iI u i j)).length:=by simpa using r
 have aa:((List.range u.blocks.length).map (iI u i j))[B.next[j]]'a=iI u i j B.next[j]:=by simp
 obtain ⟨l,d,M,h6,h7,hd,hl,N,e2,e3,e4,e5,e6,H7,s7⟩:=q.QA 0 rfl a (jP:=8) (zL:=3) (y:=i) (w:=[.I i]) (ro:=false) rfl (by decide) (by decide) (by
  grind[pZ])
 refine oF (q.ld 1 rfl rfl) (eh J (oF L.next (eh Z (eh j2 (eh N (eh e2 ?_))))));rw[qB,fE];have s:fh 3 1 8 d (.slice I.next 0 1) (I.new (.cells 3 1 true false (ic [i])))=some (.val M h6):=e3;rw[s,en];refine eh N ?_;rw[e5,en];simp only[ji]at H7;refine fL ⟨X-1,by omega,j+1,f.set (B.next[j]) M,rfl,by omega,p.trans s7,?_⟩;have e:((List.range u.blocks.length).map (iI u i j)).set (B.next[j]) (((List.range u.blocks.length).map (iI u i j))[B.next[j]]'a++[i])=(List.range u.blocks.length).map (iI u i (j+1)):=by
  refine wBy (by simp) λb c R=>?_;rw[List.getElem_set];simp only[List.getElem_map,List.getElem_range];rw[Kq o (iy hj)];by_cases eb:B.next[j]=b
  ·simp_all
  ·grind
 simp_all
end
open Un Dm
section
variable{F F':Nat->Prop}{h h':Hp}{cs:List Pc}{Q:fD}{u:U}{vv vb vs nv:V}{X4:List (List Nat)}
structure Nxs (n:Nat) (nx:Nat->List Nat) (X4:List (List Nat)):Prop where
 n0:0<n
 n3:n<=300
 len:X4.length=n
 at_:∀b:Nat,b<n->X4[b]? =some (nx b)
 two:∀b:Nat,b<n->(nx b).length<=2
 lt:∀b:Nat,b<n->∀t∈nx b,t<n
theorem Nh{n:Nat}{nx:Nat->List Nat}(w:Nxs n nx X4)(FM:Int)(H0:eo F h cs)(hs:im (eL eN) F h X4 nv)
  (H:∀h' v seen,Sn F h F h'->eo F h' (fg eB jZ seen v::cs)->seen.length=n->(∀b:Nat,seen[b]? =some true↔US nx FM b)->Q v h') :
  cP CS kh [nv,.I 0,.I FM] h Q:=by
 refine CV rfl rfl ?_;unfold uS;have n0:=w.n0;have n3:=w.n3;refine eh hs.len ?_;rw[w.len,ku (z:=V.bool false) rfl (by decide) (by omega),fE];obtain⟨S,T⟩:=H0.make (E:=eB) (ty:=jZ) (y:=false) (u:=V.bool false) n rfl rfl;generalize h.new (.cells jZ 1 true false (List.replicate n (V.bool false)))=h1 at*;generalize h.next=r at*;by_cases hb:FM=0
 ·refine gy (gz hb.symm (H h1 _ _ T S WI λb=>⟨λh=>?_,by grind[absurd,Xh]⟩))
  grind
 refine gy (gh (by omega) ?_);obtain⟨l2,o2,i,e1,e2,_,I,s2⟩:=S.Kh 0 rfl (k:=0) (y:=true) (u:=V.bool true) (by simp_all) rfl rfl rfl;refine eh e1 ?_;rw[e2,en];simp only[ji]at I;have ep:jz 3 1 1 (V.I 0) [(0,V.I 0)]=some (.cells 3 1 true false (ic [0]),λl=> .slice l 0 1):=rfl;rw[ep,fE]
 have J:eo F (i.new (.cells 3 1 true false (ic [0]))) (ZQ eR [0] (.slice i.next 0 1)::fg eB jZ ((List.replicate n false).set 0 true) (.slice r 0 n)::cs)/\Sn F i F (i.new (.cells 3 1 true false (ic [0]))):=
  I.new (p:=ZQ eR [0] (.slice i.next 0 1)) _ (.inr ⟨i.next,[],[],rfl,OF _,I.fresh,fq _ _,rfl,rfl⟩) λl e=>e.symm
 obtain⟨J,s3⟩:=J;generalize i.new (.cells 3 1 true false (ic [0]))=h3 at*;generalize i.next=lq at*;have K:=(T.trans s2).trans s3
 refine Ay (λk l h'=>∃(seen:List Bool) (todo:List Nat) (s:V),l=[nv,.I FM,.slice r 0 n,s]/\k=todo.length+seen.count false/\Sn F h F h'/\Wo n nx FM none seen todo/\eo F h' (ZQ eR todo s::fg eB jZ seen (.slice r 0 n)::cs)) ?_ (k:=[0].length+((List.replicate n false).set 0 true).count false)
  ⟨_,_,_,rfl,rfl,K,Wo.start n0 hb,J⟩
 rintro k _ _ _ s h4 ⟨seen,todo,_,⟨⟩,hk,s4,W,B⟩;unfold qN;refine eh (B.zfe 0 rfl) ?_
 cases todo with
 | nil=>
   refine DT (gh (by simp) ?_)
   exact H h4 _ seen s4 B.tail W.len W.iff
 | cons b todo=>
   refine DT (gz (by simp_all) ?_);obtain⟨la,oa,aa,x1,x2,x3,U⟩:=B.zfm 0 rfl;refine eh x1 (eh x2 (eh x3 ?_));simp only[ji]at U;obtain⟨W5,Ea⟩:=W.pop;have o:b<n:=by
     have:=(ki.1 (W.work b (by simp))).1;rw[W.len]at this;exact this
   have ab:=w.two b o
   refine AG (λC l h'=>∃(j:Nat) (a:List Bool) (d:List Nat) (s:V),l=[nv,.I FM,.slice r 0 n,s,.I (b:Nat),.I (j:Nat)]/\j+C=(nx b).length/\d.length+a.count false+1<=k/\Sn F h F h'/\Wo n nx FM (some (b,j)) a d/\eo F h' (ZQ eR d s::fg eB jZ a (.slice r 0 n)::cs)) ?_ (k:=(nx b).length)
     (by grind)
   clear U B W5 W s4;rintro C _ _ _ q _ _ h6 ⟨j,f,g,_,⟨⟩,ac,L,D,x,G⟩;unfold qF;obtain⟨lb,ob,wb,_,X,Y,Z⟩:=(hs.since D).list (w.at_ b o) .i64;refine eh X (eh Y (eh Z.len ?_));by_cases hj:j<(nx b).length
   ·refine gK ?_
    have ht:=iy hj;have ae:=w.lt b o _ (AY hj);generalize (nx b)[j]=t at*;obtain⟨lc,oc,_,z1,z2⟩:=Z.nat ht .i64;refine eh X (eh Y (eh z1 (eh z2 (eh (rN ..) ?_))));have oh:=x.len;obtain⟨c,hc⟩:∃c,f[t]? =some c:=by simp_all
    obtain ⟨ld,od,q1,q2⟩:=G.Mf 1 rfl hc .i64;rw[show kE (.bool ((t:Int) != FM)) (oB (some (V.slice r 0 n)) λM=>oB (some (V.I (t:Nat))) λN=>oB (gB 1 M N) λO=>oB (fe O h6) λP=>qf .not P)=some (.bool (((t:Int) != FM)&&!c)) from by
      simp_all]
    rw[iB];refine jj ?_;have ag:=x.less;by_cases cnd:(t:Int)≠FM/\c=false
    ·refine gz (by simp_all) ?_
     rw[cnd.2]at hc;obtain⟨le,oe,h7,e7,e8,_,H7,s7⟩:=G.Kh 1 rfl (k:=t) (y:=true) (u:=V.bool true) (by omega) rfl rfl rfl;refine eh e7 ?_;rw[e8,en];simp only[ji,lO]at H7;rw[qB,fE];obtain⟨A,h8,e9,_,H8,s8⟩:=H7.ze3 0 rfl (jP:=8) (zL:=3) (y:=t) (ro:=false) (by decide) (by omega);have R:fh 3 1 8 q (.slice h7.next 0 1) (h7.new (.cells 3 1 true false (ic [t])))=some (.val A h8):=e9;rw[R,en];simp only[ji]at H8;refine qq ?_;unfold mR;refine lZ (m:=1) (by omega) (by omega) ⟨C-1,by omega,j+1,_,_,A,rfl,by omega,?_,(D.trans s7).trans s8,x.push ht Ea cnd.1 hc,H8⟩
     grind
    ·refine gh (λh=>cnd ?_) ?_
     ·simp_all
     refine qq ?_;unfold mR;refine lZ (m:=1) (by omega) (by omega) ⟨C-1,by omega,j+1,_,_,q,rfl,by omega,L,D,x.skip ht ?_,G⟩
     grind
   ·refine iQ ?_
    obtain rfl:j=(nx b).length:=by omega
    exact⟨g.length+f.count false,by omega,f,g,q,rfl,rfl,D,x.next,G⟩
theorem Zw:(zbp).rel F h .ei [.ei]:=⟨rfl,rfl⟩
def zeI(n:Nat)(nx:Nat->List Nat)(OC:List (List Bool)):Prop:=OC.length=n/\∀a:Nat,a<n->∃row,OC[a]? =some row/\row.length=n/\∀b:Nat,b<n->(row[b]? =some true↔o0 nx a b)
theorem zbi{n:Nat}{nx:Nat->List Nat}(w:Nxs n nx X4)(R:eo F h cs)(hs:im (eL eN) F h X4 nv)
  (H:∀F' h' v OC,Sn F h F' h'->eo F' h' cs->im (eL eB) F' h' OC v->zeI n nx OC->Q v h') :
  cP CS nU [nv,.I 0] h Q:=by
 refine FV rfl rfl ?_;unfold yL;have n0:=w.n0;have n3:=w.n3;refine eh hs.len ?_;rw[w.len,ku (z:=V.ei) rfl (by decide) (by omega),fE];obtain⟨S,T⟩:=R.make (E:=zbp) (ty:=Mv) (y:= .ei) (u:= .ei) n Zw rfl;generalize h.new (.cells Mv 1 true false (List.replicate n V.ei))=h1 at*;generalize h.next=r at*
 refine CR (λk l h'=>∃(F':Nat->Prop) (a:Nat) (ds:List V) (OC:List (List Bool)),l=[nv,.I 0,.slice r 0 n,.I a]/\a+k=n/\Sn F h F' h'/\eo F' h' (fg zbp Mv ds (.slice r 0 n)::cs)/\ds.length=n/\OC.length=n/\
   ∀c:Nat,c<a->∃row d,OC[c]? =some row/\ds[c]? =some d/\im eB F' h' row d/\row.length=n/\∀b:Nat,b<n->(row[b]? =some true↔o0 nx c b)) ?_ (k:=n)
  ⟨F,0,_,List.replicate n [],rfl,by omega,T,S,WI,WI,by omega⟩
 rintro k _ _ _ _ I ⟨s,a,ds,OC,⟨⟩,hk,t,J,U,oh,f⟩;unfold uo;refine eh (hs.since t).len ?_;rw[w.len];by_cases ha:a<n;rotate_left
 ·refine iQ ?_;obtain rfl:a=n:=by omega
  obtain⟨x,j,r3⟩:=J.kL 0 rfl;simp only[ji]at x;refine H _ I _ OC (t.trans j) x.tail (r3.ZW (E':=eL eB) rfl (by simp_all) (by omega) λc d row ws W K X=>?_) ⟨oh,λc hc=>?_⟩
  ·have B:=(ki.1 K).1;obtain⟨L,d',g,i,C,_⟩:=f c (by omega);rw[W]at i;rw[K]at g;cases g;cases i;obtain⟨rfl,_⟩:=X;exact⟨d,rfl,C.mono j.mono⟩
  grind
 refine gK ?_;refine Nh w (a:Nat) J (hs.since t) λM sv seen j x Y Z=>?_;have m:=t.trans j;refine eh (hs.since m).len ?_;rw[w.len,ku (z:=V.bool false) rfl (by decide) (by omega),fE];obtain⟨H4,s4⟩:=x.make (E:=eB) (ty:=jZ) (y:=false) (u:=V.bool false) n rfl rfl;generalize M.new (.cells jZ 1 true false (List.replicate n (V.bool false)))=h4 at*;generalize M.next=lr at*;obtain⟨l5,o5,h5,g,i,_,H5,N⟩:=H4.Kh 2 rfl (k:=a) (y:=V.slice lr 0 n) (u:=V.slice lr 0 n) (by omega) rfl rfl ⟨rfl,rfl⟩;refine eh g ?_;rw[i,en];simp only[ji,lO]at H5;have aa:=(m.trans s4).trans N;have ab:=(j.trans s4).trans N
 refine C7 (λD l h'=>∃(b:Nat) (cur:List Bool),l=[nv,.I 0,.slice r 0 n,.I a,sv,.I b]/\b+D=n/\Sn F h s h'/\Sn s I s h'/\cur.length=n/\(∀c:Nat,c<b->(cur[c]? =some true↔o0 nx a c))/\
   eo s h' (fg eB jZ cur (.slice lr 0 n)::fg eB jZ seen sv::fg zbp Mv (ds.set a (.slice lr 0 n)) (.slice r 0 n)::cs)) ?_ (k:=n)
  (by grind)
 rintro D _ _ _ _ _ _ h6 ⟨b,cur,⟨⟩,ac,G,o,B,O,A⟩;unfold uy;refine eh (hs.since G).len ?_;rw[w.len];by_cases hb:b<n
 ·refine gK ?_;obtain⟨lx,ox,dx,x1,x2,P⟩:=A.U8 2 rfl (k:=a) (by simp_all) .i64 rfl;have hg:(ds.set a (V.slice lr 0 n))[a]'(by simp_all)=V.slice lr 0 n:=List.getElem_set_self _;rw[hg]at P;obtain rfl:dx=V.slice lr 0 n:=by have:=P.1;simp_all
  obtain⟨c,hc⟩:∃c,seen[b]? =some c:=by simp_all
  obtain⟨ly,oy,y1,y2⟩:=A.Mf 1 rfl hc .i64;refine eh x1 (eh x2 (eh y1 (eh y2 (VX ?_))));obtain⟨lz,oz,h7,z1,z2,zn,p,q⟩:=A.Kh 0 rfl (k:=b) (y:=!c) (u:=V.bool (!c)) (by omega) rfl rfl rfl;refine eh z1 ?_;rw[z2,en];simp only[ji]at p;refine⟨zn,fL ⟨D-1,by omega,b+1,_,rfl,by omega,G.trans q,o.trans q,by simp_all,λe he=>?_,p⟩⟩
  grind[NZ,WD,KP]
 ·refine iQ ?_;obtain rfl:b=n:=by omega
  obtain⟨p,q,r7⟩:=A.kL 0 rfl;simp only[ji]at p;refine fL ⟨k-1,by omega,_,a+1,_,OC.set a cur,rfl,by omega,G.trans q,p.tail.tail,by simp_all,by simp_all,λc hc=>?_⟩;by_cases e:c=a
  ·simp_all
  ·rw[KP (by omega),KP (by omega)];obtain⟨row,d,g,i,C,e4⟩:=f c (by omega);exact⟨row,d,g,i,(C.since o).since q,e4⟩
structure zcm (u:U) (pE IA:List Nat) (OC:List (List Bool)):Prop where
 at_:∀(v b k:Nat),At u v b k->pE[v]? =some b/\IA[v]? =some k
 TG:zeI u.blocks.length (next u) OC
def U3(u:U)(vv vb vs wb wp wd:V):List V:=[.I u.func,.I u.pc,vv,vb,vs,wb,wp,wd]
variable{pE IA:List Nat}{OC:List (List Bool)}{wb wp wd:V}
theorem Hn(o:zcm u pE IA OC)(z:eo F h cs)(i:wW F h u vv vb vs)(hb:im eN F h pE wb)(hp:im eN F h IA wp)(y:im (eL eB) F h OC wd){a b k c j:Nat}(e:At u a c j)(l:b<u.blocks.length)(hs:c=b/\j<k\/c≠b/\o0 (next u) c b)
  (H:∀h',Sn F h F h'->eo F h' cs->Q (.bool true) h'):cP CS il [.agg (U3 u vv vb vs wb wp wd),.I a,.I b,.I k] h Q:=by
 refine zS rfl rfl ?_;unfold qm;obtain⟨A,C⟩:=o.at_ a c j e;refine jH z (by simp only[U3,eJ,i.v.one,i.b.one,i.s.one,hb.one,hp.one,y.one];rfl) λd f g=>?_;generalize h.next=lx at*;obtain⟨l1,M,_,D,E⟩:=(hb.since g).nat A .i64;obtain⟨l2,N,_,O,P⟩:=(hp.since g).nat C .i64;have G:fe (.ptr lx (0+5)) d=some wb:=f.ld 0 rfl rfl;have R:fe (.ptr lx (0+6)) d=some wp:=f.ld 0 rfl rfl;have S:fe (.ptr lx (0+7)) d=some wd:=f.ld 0 rfl rfl;have m:c<u.blocks.length:=by
  obtain⟨B,T,_⟩:=e;exact by grind
 obtain ⟨row,r1,r2,r3⟩:=o.TG.2 c m;obtain⟨l3,U,d3,_,W,X,I⟩:=(y.since g).list r1 .i64;have hq:=H d g f.tail;refine eh (by rfl) (eh G (eh D (eh E (eh (g0 ..) ?_))));rw[show kE (.bool ((c:Int) == (b:Int))) (oB (fJ 6 (V.ptr lx 0)) λn=>oB (fe n d) λp=>oB (some (V.I a)) λq=>oB (gB 1 p q) λr=>oB (fe r d) λt=>oB (some (V.I k)) λw=>ez .lss 3 t w)=some (.bool (((c:Int) == (b:Int))&&decide ((j:Int)<k))) from by
  simp_all]
 rw[iB];rcases hs with⟨rfl,J⟩|⟨J,K⟩
 ·rw[show(((c:Int) == (c:Int))&&decide ((j:Int)<k))=true by rw[vH];exact⟨by simp,JM (by omega)⟩];exact eh rfl hq
 ·have x:=(r3 b l).2 K;obtain⟨l4,Y,_,Z,w2⟩:=I.bool x .i64;rw[show(((c:Int) == (b:Int))&&decide ((j:Int)<k))=false by grind];have L:((c:Int) != (b:Int))=true:=by rw[wB6];omega
  refine eh (a:= .bool true) ?_ hq
  simp_all
theorem Pf(o:zcm u pE IA OC)(g:Good u)(D:eo F h cs)(e:wW F h u vv vb vs)(hb:im eN F h pE wb)(hp:im eN F h IA wp)(A:im (eL eB) F h OC wd){s b k:Nat}{fs:List Fm}(a:u.ev[s]? =some fs)(p:b<u.blocks.length)(hs:∀w∈ik fs,∃c j,At u w c j/\(c=b/\j<k\/c≠b/\o0 (next u) c b))
  (H:∀F' h',Sn F h F' h'->eo F' h' cs->Q (.bool true) h'):cP CS jq [.agg (U3 u vv vb vs wb wp wd),.I s,.I b,.I k] h Q:=by
 refine zQ rfl rfl ?_;unfold qe;refine jH D (by simp only[U3,eJ,e.v.one,e.b.one,e.s.one,hb.one,hp.one,A.one];rfl) λU B C=>?_;generalize h.next=lx at*;have E:=e.since C;obtain⟨l1,V,f,_,G,I,_,J⟩:=E.st a;refine eh (by rfl) (eh (by rfl) (eh (B.ld 0 rfl rfl) (eh G (eh I ?_))));refine Pb B J (by grind[EN]) λm K L M N r2=>?_;have O:=EP (fs:=fs) (EN g s fs a).2;have:=(EN g s fs a).1;have q:=C.trans M
 refine yq (λr l h'=>∃i:Nat,l=[.I b,.I k,.ptr lx 0,L,.I (i:Nat)]/\i+r=(ik fs).length/\Sn F h m h'/\Sn m K m h'/\eo m h' (eQ lx _ (U3 u vv vb vs wb wp wd)::cs)) ?_ (k:=(ik fs).length)
  ⟨0,rfl,by omega,q,Sn.refl _ _,N⟩
 rintro r _ _ _ _ _ P ⟨i,⟨⟩,W,d,n,t⟩;unfold pz;have r3:=r2.since n;refine eh r3.len ?_;by_cases hi:i<(ik fs).length
 ·refine gK ?_;have hx:=iy hi;obtain⟨c,j,y,z⟩:=hs _ (AY hi);generalize (ik fs)[i]=x at*;obtain⟨l4,X,_,R,S⟩:=r3.nat hx .i64;refine eh (t.pC 0 rfl rfl) (eh R (eh S ?_));refine Hn o t (e.since d) (hb.since d) (hp.since d) (A.since d) y p z λY s4 T=>?_;refine⟨s4.next,rP (gz rfl ?_)⟩;exact fL ⟨r-1,by omega,i+1,rfl,by omega,d.trans s4,n.trans s4,T⟩
 ·exact iQ (H m P d t.tail)
end
