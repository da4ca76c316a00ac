/- Parts. -/
import Derived.Test.YtkpicojjjifmgaaGreatDoorM28
import Derived.Test.YtkpicojjjifmgaaGreatDoorM36
namespace Go.Proofs.YtkpicojjjifmgaaGreatDoor.Hx
open Un Dm
def QuR(ty:Nat)(F:Nat->Prop)(h:Hp)(xs:List Nat)(v:V):Prop:=(v = .ef/\xs=[])\/∃t pre post,v = .slice t pre.length xs.length/\t<h.next/\¬F t/\h.get t=some (.cells ty 1 true false (pre++hZ xs++post))/\gG pre=true/\gG post=true
def Yv(ty:Nat)(xs:List Nat)(v:V):Pc where
 mw:=Loc v
 ok F h:=QuR ty F h xs v
 Nz:=λ{F h} a l b=>by
  rcases a with⟨rfl,_⟩|⟨t,pre,post,rfl,c,d,_⟩
  ·exact b.elim
  ·obtain rfl:t=l:=b;exact⟨c,d⟩
 fm:=λ{F h h'} a _ b f=>by
  rcases a with a|⟨t,pre,post,rfl,c,d,e,g⟩
  ·exact .inl a
  ·exact .inr ⟨t,pre,post,rfl,Cb c f,d,(b t rfl).trans e,g⟩
 mono:=λ{F F' h} a _ b=>by
  rcases a with a|⟨t,pre,post,rfl,c,d,e⟩
  ·exact .inl a
  ·exact .inr ⟨t,pre,post,rfl,c,b t rfl,e⟩
def Y9:ri V where
 sz:=1
 rel _ _ n cs:=cs=[n]/\n.one=true
 len h:=by rw[h.1];rfl
 one h:=by rw[h.1,ey,h.2];rfl
 fm _ h:=h
 mono _ h:=h
section
variable{F F':Nat->Prop}{h h':Hp}{cs:List Pc}{Q:fy}{u:U}{vv vb vs:V}
theorem M8(xs:List Nat):(hZ xs).length=xs.length:=GM ..
theorem Cw:∀xs:List Nat,gG (hZ xs)=true
 |[]=>rfl
 | x::xs=>by
   show gG (V.I (x:Nat)::hZ xs)=true;rw[ey,Cw xs];rfl
theorem Qs(xs ys:List Nat):hZ (xs++ys)=hZ xs++hZ ys:=Nh ..
theorem eo.zee(H:eo F h cs)(i:Nat){ty:Nat}{xs:List Nat}{v:V}(hi:cs[i]? =some (Yv ty xs v)):fH v=some (.I xs.length):=by
 rcases H.ok i _ hi with⟨rfl,rfl⟩|⟨t,pre,post,rfl,_⟩ <;> rfl
theorem eo.zdZ(H:eo F h cs)(i:Nat){ty x:Nat}{xs:List Nat}{v:V}(hi:cs[i]? =some (Yv ty (x::xs) v)) :
  ∃l o c,gJ 1 v (.I 0)=some (.ptr l o)/\eQ (.ptr l o) h=some (.I x)/\jy 1 v (some (.I 1)) none h=some c/\eo F h (cs.set i (Yv ty xs c)):=by
 rcases H.ok i _ hi with⟨_,a⟩|⟨t,pre,post,rfl,a,d,b,e,f⟩
 ·cases a
 ·refine⟨t,pre.length+0*1,.slice t (pre.length+1*1) ((x::xs).length-1),Ci 1 t pre.length _ 0 .i64 (by simp),lQ b ?_,?_,H.swap hi (.inr ⟨t,pre++[V.I x],post,?_,a,d,?_,?_,f⟩) λ_ h=>h⟩
  ·rw[Ii,Nat.zero_mul,YZ,SQ (jK _),Nat.sub_self];rfl
  ·unfold jy kI;simp only[b,fi,FU];rw[show hbound 0 (some (V.I 1))=some 1 from rfl,fi,mC _ (Tn _),mC _ (Qu (by simp)),mC _ (by rw[Qu (jK _)];rfl)];rfl
  ·simp
  ·rw[b];simp[hZ]
  ·rw[oK,e];rfl
theorem eo.zcg(H:eo F h cs)(i:Nat){ty j7 Ca y:Nat}{ro:Bool}{xs:List Nat}{v:V}(hi:cs[i]? =some (Yv ty xs v))(w:j7<=1000)(x:xs.length<1000000) :
  ∃c h',fg ty 1 j7 v (.slice h.next 0 1) (h.new (.cells Ca 1 true ro (hZ [y])))=some (.val c h')/\h.next+1<=h'.next/\eo F h' (cs.set i (Yv ty (xs++[y]) c))/\Sn F h F h':=by
 obtain ⟨g,z⟩:=H.grow (mA.new h (.cells Ca 1 true ro (hZ [y])));have l:lU (h.new (.cells Ca 1 true ro (hZ [y]))) 1 (.slice h.next 0 1)=some (1,hZ [y]):=oG (k:=0) rfl;have L:(h.new (.cells Ca 1 true ro (hZ [y]))).next=h.next+1:=rfl;have hq:=g.ok i _ hi;generalize h.new (.cells Ca 1 true ro (hZ [y]))=b at*;have A:(xs.length+1)*j7<=1000000*1000:=Nat.mul_le_mul (by omega) w;have m:∃c h',fg ty 1 j7 v (.slice h.next 0 1) b=some (.val c h')/\QuR ty F h' (xs++[y]) c/\mA (Loc v) b h'/\∀t,Loc c t->Loc v t\/b.next<=t:=by
  rcases hq with⟨rfl,rfl⟩|⟨t,pre,post,rfl,j,B,r,C,d⟩
  ·refine⟨.slice b.next 0 1,b.new (.cells ty 1 true false (hZ [y])),?_,.inr ⟨b.next,[],[],rfl,Mm _,λn=>Yt _ (g.fl _ n),fj _ _,rfl,rfl⟩,mA.new _ _,λt e=> .inr (YO e)⟩;unfold fg;simp only[l,fi];show bB (gG (hZ [y])) _=_;rw[mC _ (Cw _),mC _ (show Nat.ble (Nat.mul 1 j7) 70368744177664=true from Qu (show 1*j7<=_ by omega)),mC _ (show Nat.ble 1 70368744177664=true from rfl)]
  ·have e0:(pre++hZ xs++post).length=pre.length+xs.length+post.length:=by rw[Ec,Ec,M8]
   cases post with
   | nil =>
     refine⟨.slice b.next 0 (xs.length+1),(b.put t (.cells ty 1 false false (pre++hZ xs++[]))).new (.cells ty 1 true false (hZ xs++hZ [y])),?_,.inr ⟨b.next,[],[],by simp,Mm _,λn=>Yt _ (g.fl _ n),?_,rfl,rfl⟩,(mA.put (S:=Loc (.slice t pre.length xs.length)) _ rfl j).trans (mA.new _ _),λt e=> .inr (YO e)⟩
     ·unfold fg kI
      have f:sub (pre++hZ xs++[]) pre.length (Nat.mul xs.length 1)=some (hZ xs):=by
        show sub (pre++hZ xs++[]) pre.length (xs.length*1)=_;rw[FZ (by rw[e0];simp),GP,List.drop_left,Yq (by rw[M8];omega)]
      have a:Nat.ble (Nat.add pre.length (Nat.mul (Nat.add xs.length 1) 1)) (pre++hZ xs++[]).length=false:=by
        rw[wBl];intro D;have:=JE D;rw[e0]at this;have o:Nat.add pre.length (Nat.mul (Nat.add xs.length 1) 1)=pre.length+(xs.length+1)*1:=rfl;rw[o]at this;simp at this;omega
      simp only[l,fi];show bB (gG (hZ [y])) _=_;rw[mC _ (Cw _)];simp only[r,fi,f,Cw];rw[mC _ (show true=true from rfl),mC _ (show(!false)=true from rfl),mC _ (Tn _),a];simp only[tH];rw[mC _ (show Nat.ble (Nat.mul (Nat.add xs.length 1) j7) 70368744177664=true from Qu (show(xs.length+1)*j7<=_ by omega)),mC _ (show Nat.ble (Nat.add xs.length 1) 70368744177664=true from Qu (show xs.length+1<=70368744177664 by omega))]
     ·simp only[GP,No,Qs]
      exact fj (b.put t _) _
   | cons p post=>
     refine⟨.slice t pre.length (xs.length+1),b.put t (.cells ty 1 true false (pre++hZ (xs++[y])++post)),?_,.inr ⟨t,pre,post,by simp,j,B,gq _ j,C,?_⟩,mA.put _ rfl j,λt e=> .inl e⟩
     ·unfold fg kI
      have a:Nat.ble (Nat.add pre.length (Nat.mul (Nat.add xs.length 1) 1)) (pre++hZ xs++p::post).length=true:=by
        refine Qu ?_;show pre.length+(xs.length+1)*1<=_;rw[e0,KB];omega
      have q:pV (Nat.add pre.length (Nat.mul xs.length 1)) (pre++hZ xs++p::post) (hZ [y])=some (pre++hZ (xs++[y])++post):=by
        have s:(hZ [y]).length=1:=rfl;have o:(pre++hZ xs).length=pre.length+xs.length:=by rw[Ec,M8]
        rw[show Nat.add pre.length (Nat.mul xs.length 1)=pre.length+xs.length by show pre.length+xs.length*1=_;omega,Cg (by rw[e0,s,KB];omega),s];congr 1;rw[<-o,List.take_left,Qs,<-Zx,List.drop_left];simp
      simp only[l,fi];show bB (gG (hZ [y])) _=_;rw[mC _ (Cw _)];simp only[r,fi];rw[mC _ (show true=true from rfl),mC _ (show(!false)=true from rfl),mC _ (Tn _),a];simp only[q,fi]
     ·rw[ey]at d
      cases hp:p.one with
      |true=>rw[hp]at d;exact d
      |false=>rw[hp]at d;cases d
 obtain⟨c,h',E,G,u,I⟩:=m;obtain⟨J,K⟩:=g.Hu (p:=Yv ty (xs++[y]) c) hi u G I;exact⟨c,h',E,by have:=u.next;omega,J,z.trans K⟩
theorem Ky{a n:Nat}(b:a<n)(H:Q (.bool true) h):cP CS gO [.I a,.I n] h Q:=by
 refine GZ rfl rfl ?_;unfold zf;refine ee (nW ..) ?_;simp only[fi,jO,ke,gX];rw[Ke (show(0:Int)<=(a:Nat) by omega),Ke (show(a:Int)<(n:Nat) by omega)];exact H
theorem SE{op:Nat}(H:Q (.bool (Jm op)) h):cP CS jM [.I op] h Q:=by
 refine DR rfl rfl ?_;unfold wQ;refine ee (jO ..) ?_;simp only[fi,gI,qK,gX];have e:(decide ((op:Int)<19) ||((op:Int) == 21))=Jm op:=by
  unfold Jm;rw[show((op:Int) == 21)=(op == 21) from V5 _ 21];congr 1;rw[decide_eq_decide];omega
 rw[e];exact H
theorem iq.zco{fs:List Fm}{f:V}(a:iq eF F h fs f){i:Nat}{x:Fm}(d:fs[i]? =some x) :
  ∃l o a b,F l/\gJ 4 f (.I i)=some (.ptr l o)/\eQ (.ptr l (o+2)) h=some a/\eQ (.ptr l (o+3)) h=some b/\iq eN F h x.locals a/\iq eN F h x.stack b:=by
 obtain⟨hi,rfl⟩:=jR.1 d;obtain⟨l,o,w,e,g,m,⟨a,b,rfl,j,k⟩,c⟩:=a.ix hi .i64;exact⟨l,o,a,b,e,g,c 2 a rfl,c 3 b rfl,j,k⟩
theorem DW:∀{fs:List Fm},(∀f∈fs,f.locals.length<=40/\f.stack.length<=60)->(gN fs).length<=fs.length*100
 |[],_=>by simp[gN]
 | f::fs,hf=>by
   have a:=DW (fs:=fs) λf b=>hf f (wBy _ b);obtain⟨c,d⟩:=hf f (WD ..);unfold gN at a⊢;simp only[wB1,Ec,KB];omega
theorem NS{fs:List Fm}{f:V}(C:eo F h cs)(hs:iq eF F h fs f)(i:fs.length<=30/\∀f∈fs,f.locals.length<=40/\f.stack.length<=60)
  (H:∀F' h' v,Sn F h F' h'->eo F' h' cs->iq eN F' h' (gN fs) v->Q v h'):cP CS ki [.agg [f]] h Q:=by
 refine Cm rfl rfl ?_;unfold uO;refine jS C (by simp only[ey,hs.one];rfl) λt m u=>?_;generalize h.next=n at*;have m:eo F t (eR eN eJ [] .ef::ez n 52 [f]::cs):=m.add .nil λ_ h=>h
 refine z9 (λk l h'=>∃(j:Nat) (v:V),l=[.ptr n 0,v,.I j]/\j+k=fs.length/\Sn F t F h'/\eo F h' (eR eN eJ (gN (fs.take j)) v::ez n 52 [f]::cs)) ?_ (k:=fs.length)
  ⟨0,_,rfl,by omega,Sn.refl _ _,m⟩
 rintro k _ v _ D ⟨j,_,⟨⟩,S,p,b⟩;unfold qX;have e:=(hs.since u).since p;refine oF (b.ld 1 rfl rfl) (ee e.len ?_);by_cases hj:j<fs.length;rotate_left
 ·refine iJ ?_;rw[Yq (by omega)]at b;obtain⟨d,g,E⟩:=b.ma 0 rfl;simp only[jo]at d;exact H _ _ _ ((u.trans p).trans g) d.tail.tail E
 refine gB ?_;obtain⟨l,o,a,c,G,w,I,x,J,K⟩:=e.zco (hO hj);obtain⟨T,U⟩:=i.2 _ (zd hj);have hlen:=DW (fs:=fs.take j) λf L=>i.2 f (wBx L);rw[Ip]at hlen;have q:(gN (fs.take j)).length<=3000:=by
  have:=i.1;have:min j fs.length<=30:=by omega
  omega
 refine oF (b.ld 1 rfl rfl) (ee w (oF I (oF (b.ld 1 rfl rfl) (ee w (oF x ?_)))));obtain⟨y,z,M,n3,d,g⟩:=b.Nt 0 rfl (j7:=8) J (by decide) (by decide) (by omega);have r:fg 3 1 8 v a D=some (.val y z):=M;rw[r,ei];simp only[jo]at d;refine⟨n3,iL x (g.fm _ G),d.ld 1 rfl rfl,?_⟩;obtain⟨A,N,O,P,B,s4⟩:=d.Nt 0 rfl (j7:=8) (K.since g) (by decide) (by decide) (by simp only[Ec];omega);have s:fg 3 1 8 y c z=some (.val A N):=O;rw[s,ei];simp only[jo]at B;refine⟨P,fM ⟨k-1,by omega,j+1,A,rfl,by omega,(p.trans g).trans s4,?_⟩⟩;have R:gN (fs.take (j+1))=gN (fs.take j)++fs[j].locals++fs[j].stack:=by
  rw[NG hj];unfold gN;simp only[wBa,wB1,List.flatMap_nil,GP,Ii]
 rw[R];exact B
theorem Z0{xs:List Nat}{a b:V}(c:iq eN F h xs a)(d:iq eN F h xs b)(m:xs.length<1000000000)(H:Q (.bool true) h):cP CS nr [a,b] h Q:=by
 refine EJ rfl rfl ?_;unfold xJ;refine ee c.len (ee d.len (xe (gv rfl ?_)));refine BM (λk l h'=>∃i:Nat,l=[a,b,.I (i:Nat)]/\i+k=xs.length/\h' = h) ?_ (k:=xs.length) ⟨0,rfl,by omega,rfl⟩;rintro k _ _ _ h' ⟨i,⟨⟩,n,rfl⟩;unfold uk;refine ee c.len ?_;by_cases hi:i<xs.length
 ·refine gB ?_;obtain⟨l,o,_,e,f⟩:=c.nat (hO hi) .i64;obtain⟨p,q,_,g,j⟩:=d.nat (hO hi) .i64;refine ee e (ee f (ee g (ee j (xe (gv rfl ?_)))));exact fM ⟨k-1,by omega,i+1,rfl,by omega,rfl⟩
 ·exact iJ H
theorem Yh(g:Good u)(P:eo F h cs)(n:ym F h u vv vb vs)(H:∀F' h' v,Sn F h F' h'->eo F' h' cs->iq (eL eN) F' h' ((List.range u.blocks.length).map (Un.ahead u)) v->Q v h') :
  cP CS mO [.agg (uC u vv vb vs)] h Q:=by
 refine DP rfl rfl ?_;unfold wZ;have nb:=g.nb;refine jS P n.one λc C D=>?_;generalize h.next=lu at*;refine oF (C.ld 0 rfl rfl) (ee (n.since D).b.len ?_);rw[ka (z:=V.ef) rfl (by decide) (by omega),fG];obtain⟨G,R⟩:=C.UH (E:=eN) (RH:=jb) (ty:=eJ) u.blocks.length;have p:List.replicate u.blocks.length ([]:List Nat)=(List.range u.blocks.length).map (iB u 0 0):=by
  refine List.ext_getElem (by simp) λi c S=>?_;simp[Ju]
 rw[p]at G
 refine AY (λk l h'=>∃(i:Nat) (ds:List V),l=[.ptr lu 0,.slice c.next 0 u.blocks.length,.I i]/\i+k=u.blocks.length/\Sn F h F h'/\
  eo F h' (FW eN jb eJ ((List.range u.blocks.length).map (iB u i 0)) (.slice c.next 0 u.blocks.length) ds::ez lu 30 (uC u vv vb vs)::cs)) ?_ (k:=u.blocks.length) ⟨0,_,rfl,by omega,D.trans R,G⟩
 rintro k _ _ _ T ⟨i,ds,⟨⟩,hk,q,r⟩;unfold ry;refine oF (r.ld 1 rfl rfl) (ee (n.since q).b.len ?_);by_cases hi:i<u.blocks.length;rotate_left
 ·refine iJ ?_;obtain rfl:i=u.blocks.length:=by omega
  obtain ⟨U,W,s4,r4⟩:=r.TH 0 rfl;have e:(List.range u.blocks.length).map (iB u u.blocks.length 0)=(List.range u.blocks.length).map (Un.ahead u):=by
   refine Wx λb _=>pt u b
  rw[e]at r4;exact H U T _ (q.trans s4) W.tail.tail r4
 refine gB ?_;obtain⟨B,f⟩:∃B,u.blocks[i]? =some B:=⟨_,hO hi⟩
 have X:B.next.length<=2:=CP g f
 refine A3 (λk l h'=>∃(j:Nat) (ds:List V),l=[.ptr lu 0,.slice c.next 0 u.blocks.length,.I i,.I j]/\
  j+k=B.next.length/\Sn F h F h'/\eo F h' (FW eN jb eJ ((List.range u.blocks.length).map (iB u i j)) (.slice c.next 0 u.blocks.length) ds::ez lu 30 (uC u vv vb vs)::cs)) ?_ (k:=B.next.length)
  ⟨0,ds,rfl,by omega,q,r⟩
 rintro Y _ _ _ _ I ⟨j,m,⟨⟩,Z,s,o⟩;unfold se;obtain⟨l7,o7,bv,bn,bp,_,J,_,_,K,_,L⟩:=(n.since s).oW f;refine oF (o.ld 1 rfl rfl) (ee J (oF L.next (ee K.len ?_)));by_cases hj:j<B.next.length;rotate_left
 ·refine iJ ?_;obtain rfl:j=B.next.length:=by omega
  refine fM ⟨k-1,by omega,i+1,m,rfl,by omega,s,?_⟩;have e:(List.range u.blocks.length).map (iB u (i+1) 0)=(List.range u.blocks.length).map (iB u i B.next.length):=Wx λb _=>Jc f;rw[e];exact o
 refine gB ?_;obtain⟨l8,o8,_,j1,j2⟩:=K.nat (hO hj) .i64;have t:B.next[j]<u.blocks.length:=g.nx i _ (by unfold next;rw[f];exact zd hj);have a:B.next[j]<((List.range u.blocks.length).map (iB u i j)).length:=by simpa using t
 have x:((List.range u.blocks.length).map (iB u i j))[B.next[j]]'a=iB u i j B.next[j]:=by simp
 obtain ⟨l,d,M,h6,h7,hd,hl,N,e2,e3,e4,e5,e6,O,s7⟩:=o.TT 0 rfl a (j7:=8) (Ca:=3) (y:=i) (w:=[.I i]) (ro:=false) rfl (by decide) (by decide) (by
  rw[x];have:=pq g (i:=i) (j:=j) (b:=B.next[j]) (by omega) (by omega);omega)
 refine oF (o.ld 1 rfl rfl) (ee J (oF L.next (ee j1 (ee j2 (ee N (ee e2 ?_))))));rw[oV,fG];have A:fg 3 1 8 d (.slice I.next 0 1) (I.new (.cells 3 1 true false (hZ [i])))=some (.val M h6):=e3;rw[A,ei];refine ee N ?_;rw[e5,ei];simp only[jo]at O;refine fM ⟨Y-1,by omega,j+1,m.set (B.next[j]) M,rfl,by omega,s.trans s7,?_⟩;have e:((List.range u.blocks.length).map (iB u i j)).set (B.next[j]) (((List.range u.blocks.length).map (iB u i j))[B.next[j]]'a++[i])=(List.range u.blocks.length).map (iB u i (j+1)):=by
  refine List.ext_getElem (by simp) λb c S=>?_;rw[List.getElem_set];simp only[List.getElem_map,List.getElem_range];rw[IP f (hO hj)];by_cases eb:B.next[j]=b
  ·subst eb;simp
  ·rw[if_neg eb,if_neg λh=>eb h.symm]
 rw[<-e];exact O
end
open Un Dm
section
variable{F F':Nat->Prop}{h h':Hp}{cs:List Pc}{Q:fy}{u:U}{vv vb vs nv:V}{X5:List (List Nat)}
structure Nxs (n:Nat) (nx:Nat->List Nat) (X5:List (List Nat)):Prop where
 n0:0<n
 n3:n<=300
 len:X5.length=n
 at_:∀b:Nat,b<n->X5[b]? =some (nx b)
 two:∀b:Nat,b<n->(nx b).length<=2
 lt:∀b:Nat,b<n->∀t∈nx b,t<n
theorem L8{n:Nat}{nx:Nat->List Nat}(w:Nxs n nx X5)(Dp:Int)(H0:eo F h cs)(hs:iq (eL eN) F h X5 nv)
  (H:∀h' v seen,Sn F h F h'->eo F h' (eR eB ju seen v::cs)->seen.length=n->(∀b:Nat,seen[b]? =some true↔SM nx Dp b)->Q v h') :
  cP CS j4 [nv,.I 0,.I Dp] h Q:=by
 refine BK rfl rfl ?_;unfold tA;have n0:=w.n0;have n3:=w.n3;refine ee hs.len ?_;rw[w.len,ka (z:=V.bool false) rfl (by decide) (by omega),fG];obtain⟨X,Y⟩:=H0.make (E:=eB) (ty:=ju) (y:=false) (u:=V.bool false) n rfl rfl;generalize h.new (.cells ju 1 true false (List.replicate n (V.bool false)))=h1 at*;generalize h.next=r at*;by_cases hb:Dp=0
 ·refine gi (gv hb.symm (H h1 _ _ Y X PV λb=>⟨λh=>?_,λh=>absurd h (UY hb)⟩));rw[wBM]at h;split at h <;> cases h
 refine gi (gg (λh=>hb h.symm) ?_);obtain⟨l2,o2,i,e1,e2,_,I,s2⟩:=X.IG 0 rfl (k:=0) (y:=true) (u:=V.bool true) (by rw[PV];exact n0) rfl rfl rfl;refine ee e1 ?_;rw[e2,ei];simp only[jo]at I;have ep:jG 3 1 1 (V.I 0) [(0,V.I 0)]=some (.cells 3 1 true false (hZ [0]),λl=> .slice l 0 1):=rfl;rw[ep,fG]
 have J:eo F (i.new (.cells 3 1 true false (hZ [0]))) (Yv eJ [0] (.slice i.next 0 1)::eR eB ju ((List.replicate n false).set 0 true) (.slice r 0 n)::cs)/\Sn F i F (i.new (.cells 3 1 true false (hZ [0]))):=
  I.new (p:=Yv eJ [0] (.slice i.next 0 1)) _ (.inr ⟨i.next,[],[],rfl,Mm _,I.fresh,fj _ _,rfl,rfl⟩) λl e=>e.symm
 obtain⟨J,s3⟩:=J;generalize i.new (.cells 3 1 true false (hZ [0]))=h3 at*;generalize i.next=lq at*;have K:=(Y.trans s2).trans s3
 refine zM (λk l h'=>∃(seen:List Bool) (todo:List Nat) (s:V),l=[nv,.I Dp,.slice r 0 n,s]/\k=todo.length+seen.count false/\Sn F h F h'/\Wo n nx Dp none seen todo/\eo F h' (Yv eJ todo s::eR eB ju seen (.slice r 0 n)::cs)) ?_ (k:=[0].length+((List.replicate n false).set 0 true).count false)
  ⟨_,_,_,rfl,rfl,K,Wo.start n0 hb,J⟩
 rintro k _ _ _ s h4 ⟨seen,todo,_,⟨⟩,hk,s4,W,B⟩;unfold qm;refine ee (B.zee 0 rfl) ?_
 cases todo with
 | nil=>
   refine El (gg (by simp) ?_)
   exact H h4 _ seen s4 B.tail W.len W.iff
 | cons b todo=>
   refine El (gv (by simp <;> omega) ?_);obtain⟨la,oa,L,x1,x2,x3,M⟩:=B.zdZ 0 rfl;refine ee x1 (ee x2 (ee x3 ?_));simp only[jo]at M;obtain⟨Z,Cr⟩:=W.pop;have o:b<n:=by
     have:=(jR.1 (W.work b (by simp))).1;rw[W.len]at this;exact this
   have aa:=w.two b o
   refine zB (λC l h'=>∃(j:Nat) (a:List Bool) (d:List Nat) (s:V),l=[nv,.I Dp,.slice r 0 n,s,.I (b:Nat),.I (j:Nat)]/\j+C=(nx b).length/\d.length+a.count false+1<=k/\Sn F h F h'/\Wo n nx Dp (some (b,j)) a d/\eo F h' (Yv eJ d s::eR eB ju a (.slice r 0 n)::cs)) ?_ (k:=(nx b).length)
     ⟨0,seen,todo,L,rfl,by omega,by rw[hk,KB];omega,s4,Z,M⟩
   clear M B Z W s4;rintro C _ _ _ q _ _ h6 ⟨j,f,g,_,⟨⟩,ab,N,D,x,G⟩;unfold qh;obtain⟨lb,ob,wb,_,y1,y2,wr⟩:=(hs.since D).list (w.at_ b o) .i64;refine ee y1 (ee y2 (ee wr.len ?_));by_cases hj:j<(nx b).length
   ·refine gB ?_
    have O:=hO hj;have ac:=w.lt b o _ (zd hj);generalize (nx b)[j]=t at*;obtain⟨lc,oc,_,z1,z2⟩:=wr.nat O .i64;refine ee y1 (ee y2 (ee z1 (ee z2 (ee (nP ..) ?_))));have mM:=x.len;obtain⟨c,hc⟩:∃c,f[t]? =some c:=⟨_,hO (by omega)⟩
    obtain ⟨ld,od,q1,q2⟩:=G.G8 1 rfl hc .i64;rw[show kv (.bool ((t:Int) != Dp)) (oB (some (V.slice r 0 n)) λP=>oB (some (V.I (t:Nat))) λR=>oB (gJ 1 P R) λS=>oB (eQ S h6) λT=>pI .not T)=some (.bool (((t:Int) != Dp)&&!c)) from by
      simp only[fi,q1,q2];show kv (.bool _) (some (.bool (!c)))=_;rw[ke]]
    rw[gX];refine jd ?_;have ae:=x.less;by_cases cnd:(t:Int)≠Dp/\c=false
    ·refine gv (by rw[vR,wCD,cnd.2];exact⟨cnd.1,rfl⟩) ?_
     rw[cnd.2]at hc;obtain⟨le,oe,h7,e7,e8,_,H7,s7⟩:=G.IG 1 rfl (k:=t) (y:=true) (u:=V.bool true) (by omega) rfl rfl rfl;refine ee e7 ?_;rw[e8,ei];simp only[jo,l0]at H7;rw[oV,fG];obtain⟨A,h8,e9,_,H8,s8⟩:=H7.zcg 0 rfl (j7:=8) (Ca:=3) (y:=t) (ro:=false) (by decide) (by omega);have U:fg 3 1 8 q (.slice h7.next 0 1) (h7.new (.cells 3 1 true false (hZ [t])))=some (.val A h8):=e9;rw[U,ei];simp only[jo]at H8;refine pO ?_;unfold my;refine j8 (m:=1) (by omega) (by omega) ⟨C-1,by omega,j+1,_,_,A,rfl,by omega,?_,(D.trans s7).trans s8,x.push O Cr cnd.1 hc,H8⟩;have:=Un.count_set hc;rw[Ec,wBS];omega
    ·refine gg (λh=>cnd ?_) ?_
     ·rw[vR,wCD]at h
      exact⟨h.1,by simpa using h.2⟩
     refine pO ?_;unfold my;refine j8 (m:=1) (by omega) (by omega) ⟨C-1,by omega,j+1,_,_,q,rfl,by omega,N,D,x.skip O ?_,G⟩;by_cases e:(t:Int)=Dp
     ·exact .inl e
     ·right
      rw[hc]
      cases c with
      |true=>rfl
      |false=>exact absurd ⟨e,rfl⟩ cnd
   ·refine iJ ?_
    obtain rfl:j=(nx b).length:=by omega
    exact⟨g.length+f.count false,by omega,f,g,q,rfl,rfl,D,x.next,G⟩
theorem Yf:(Y9).rel F h .ef [.ef]:=⟨rfl,rfl⟩
def zcO(n:Nat)(nx:Nat->List Nat)(M9:List (List Bool)):Prop:=M9.length=n/\∀a:Nat,a<n->∃row,M9[a]? =some row/\row.length=n/\∀b:Nat,b<n->(row[b]? =some true↔vO nx a b)
theorem ZF{n:Nat}{nx:Nat->List Nat}(w:Nxs n nx X5)(Z:eo F h cs)(hs:iq (eL eN) F h X5 nv)
  (H:∀F' h' v M9,Sn F h F' h'->eo F' h' cs->iq (eL eB) F' h' M9 v->zcO n nx M9->Q v h') :
  cP CS nq [nv,.I 0] h Q:=by
 refine EG rfl rfl ?_;unfold xS;have n0:=w.n0;have n3:=w.n3;refine ee hs.len ?_;rw[w.len,ka (z:=V.ef) rfl (by decide) (by omega),fG];obtain⟨H1,s1⟩:=Z.make (E:=Y9) (ty:=Lf) (y:= .ef) (u:= .ef) n Yf rfl;generalize h.new (.cells Lf 1 true false (List.replicate n V.ef))=h1 at*;generalize h.next=t at*
 refine BT (λk l h'=>∃(F':Nat->Prop) (a:Nat) (ds:List V) (M9:List (List Bool)),l=[nv,.I 0,.slice t 0 n,.I a]/\a+k=n/\Sn F h F' h'/\eo F' h' (eR Y9 Lf ds (.slice t 0 n)::cs)/\ds.length=n/\M9.length=n/\
   ∀c:Nat,c<a->∃row d,M9[c]? =some row/\ds[c]? =some d/\iq eB F' h' row d/\row.length=n/\∀b:Nat,b<n->(row[b]? =some true↔vO nx c b)) ?_ (k:=n)
  ⟨F,0,_,List.replicate n [],rfl,by omega,s1,H1,PV,PV,λc hc=>by omega⟩
 rintro k _ _ _ _ O ⟨x,a,ds,M9,⟨⟩,hk,A,P,D,mM,f⟩;unfold tM;refine ee (hs.since A).len ?_;rw[w.len];by_cases ha:a<n;rotate_left
 ·refine iJ ?_;obtain rfl:a=n:=by omega
  obtain⟨B,o,r3⟩:=P.ma 0 rfl;simp only[jo]at B;refine H _ O _ M9 (A.trans o) B.tail (r3.Zt (E':=eL eB) rfl (λ_ h=>h) (by omega) λc d row ws hd R hw=>?_) ⟨mM,λc hc=>?_⟩
  ·have j:=(jR.1 R).1;obtain⟨S,d',g,m,G,_⟩:=f c (by omega);rw[hd]at m;rw[R]at g;cases g;cases m;obtain⟨rfl,_⟩:=hw;exact⟨d,rfl,G.mono o.mono⟩
  ·obtain⟨row,d,g,_,_,I⟩:=f c hc;exact⟨row,g,I⟩
 refine gB ?_;refine L8 w (a:Nat) P (hs.since A) λT U seen o B aa J=>?_;have p:=A.trans o;refine ee (hs.since p).len ?_;rw[w.len,ka (z:=V.bool false) rfl (by decide) (by omega),fG];obtain⟨H4,s4⟩:=B.make (E:=eB) (ty:=ju) (y:=false) (u:=V.bool false) n rfl rfl;generalize T.new (.cells ju 1 true false (List.replicate n (V.bool false)))=h4 at*;generalize T.next=lr at*;obtain⟨l5,o5,h5,g,m,_,W,X⟩:=H4.IG 2 rfl (k:=a) (y:=V.slice lr 0 n) (u:=V.slice lr 0 n) (by omega) rfl rfl ⟨rfl,rfl⟩;refine ee g ?_;rw[m,ei];simp only[jo,l0]at W;have K:=(p.trans s4).trans X;have L:=(o.trans s4).trans X
 refine B2 (λM l h'=>∃(b:Nat) (cur:List Bool),l=[nv,.I 0,.slice t 0 n,.I a,U,.I b]/\b+M=n/\Sn F h x h'/\Sn x O x h'/\cur.length=n/\(∀c:Nat,c<b->(cur[c]? =some true↔vO nx a c))/\
   eo x h' (eR eB ju cur (.slice lr 0 n)::eR eB ju seen U::eR Y9 Lf (ds.set a (.slice lr 0 n)) (.slice t 0 n)::cs)) ?_ (k:=n)
  ⟨0,_,rfl,by omega,K,L,PV,λc hc=>by omega,W⟩
 rintro M _ _ _ _ _ _ h6 ⟨b,cur,⟨⟩,ab,N,q,j,i,C⟩;unfold tJ;refine ee (hs.since N).len ?_;rw[w.len];by_cases hb:b<n
 ·refine gB ?_;obtain⟨lx,ox,dx,x1,x2,Y⟩:=C.TS 2 rfl (k:=a) (by rw[Nd];omega) .i64 rfl;have hg:(ds.set a (V.slice lr 0 n))[a]'(by rw[Nd];omega)=V.slice lr 0 n:=List.getElem_set_self _;rw[hg]at Y;obtain rfl:dx=V.slice lr 0 n:=by have:=Y.1;simpa using this
  obtain⟨c,hc⟩:∃c,seen[b]? =some c:=⟨_,hO (by omega)⟩
  obtain⟨ly,oy,y1,y2⟩:=C.G8 1 rfl hc .i64;refine ee x1 (ee x2 (ee y1 (ee y2 (T7 ?_))));obtain⟨lz,oz,h7,z1,z2,zn,r,s⟩:=C.IG 0 rfl (k:=b) (y:=!c) (u:=V.bool (!c)) (by omega) rfl rfl rfl;refine ee z1 ?_;rw[z2,ei];simp only[jo]at r;refine⟨zn,fM ⟨M-1,by omega,b+1,_,rfl,by omega,N.trans s,q.trans s,by rw[Nd];exact j,λe he=>?_,r⟩⟩;by_cases eb:e=b
  ·subst eb;rw[Hf (by omega),<-VD,<-J e,hc];cases c <;> simp
  ·rw[ES λh=>eb h.symm];exact i e (by omega)
 ·refine iJ ?_;obtain rfl:b=n:=by omega
  obtain⟨r,s,r7⟩:=C.ma 0 rfl;simp only[jo]at r;refine fM ⟨k-1,by omega,_,a+1,_,M9.set a cur,rfl,by omega,N.trans s,r.tail.tail,by rw[Nd];exact D,by rw[Nd];exact mM,λc hc=>?_⟩;by_cases e:c=a
  ·subst e;exact⟨cur,_,Hf (by omega),Hf (by omega),r7,j,i⟩
  ·rw[ES λh=>e h.symm,ES λh=>e h.symm];obtain⟨row,d,g,m,G,I⟩:=f c (by omega);exact⟨row,d,g,m,(G.since q).since s,I⟩
structure zbV (u:U) (oW Hv:List Nat) (M9:List (List Bool)):Prop where
 at_:∀(v b k:Nat),At u v b k->oW[v]? =some b/\Hv[v]? =some k
 RV:zcO u.blocks.length (next u) M9
def T6(u:U)(vv vb vs wb wp wd:V):List V:=[.I u.func,.I u.pc,vv,vb,vs,wb,wp,wd]
variable{oW Hv:List Nat}{M9:List (List Bool)}{wb wp wd:V}
theorem Gm(o:zbV u oW Hv M9)(G:eo F h cs)(i:ym F h u vv vb vs)(z:iq eN F h oW wb)(hp:iq eN F h Hv wp)(A:iq (eL eB) F h M9 wd){a b k c j:Nat}(e:At u a c j)(l:b<u.blocks.length)(hs:c=b/\j<k\/c≠b/\vO (next u) c b)
  (H:∀h',Sn F h F h'->eo F h' cs->Q (.bool true) h'):cP CS ig [.agg (T6 u vv vb vs wb wp wd),.I a,.I b,.I k] h Q:=by
 refine yQ rfl rfl ?_;unfold pT;obtain⟨I,J⟩:=o.at_ a c j e;refine jS G (by simp only[T6,ey,i.v.one,i.b.one,i.s.one,z.one,hp.one,A.one];rfl) λd f g=>?_;generalize h.next=lx at*;obtain⟨l1,o1,_,C,D⟩:=(z.since g).nat I .i64;obtain⟨l2,o2,_,K,L⟩:=(hp.since g).nat J .i64;have E:eQ (.ptr lx (0+5)) d=some wb:=f.ld 0 rfl rfl;have M:eQ (.ptr lx (0+6)) d=some wp:=f.ld 0 rfl rfl;have N:eQ (.ptr lx (0+7)) d=some wd:=f.ld 0 rfl rfl;have m:c<u.blocks.length:=by
  obtain⟨B,O,_⟩:=e;exact(jR.1 O).1
 obtain ⟨row,r1,r2,P⟩:=o.RV.2 c m;obtain⟨l3,o3,d3,_,R,S,T⟩:=(A.since g).list r1 .i64;have hq:=H d g f.tail;refine oF E (ee C (ee D (ee (gI ..) ?_)));rw[show kv (.bool ((c:Int) == (b:Int))) (oB (fI 6 (V.ptr lx 0)) λn=>oB (eQ n d) λp=>oB (some (V.I a)) λq=>oB (gJ 1 p q) λr=>oB (eQ r d) λt=>oB (some (V.I k)) λw=>ev .lss 3 t w)=some (.bool (((c:Int) == (b:Int))&&decide ((j:Int)<k))) from by
  simp only[fi,fe,M,K,L,jO,ke]]
 rw[gX];rcases hs with⟨rfl,U⟩|⟨U,W⟩
 ·rw[show(((c:Int) == (c:Int))&&decide ((j:Int)<k))=true by rw[vR];exact⟨by simp,Ke (by omega)⟩];exact ee rfl hq
 ·have x:=(P b l).2 W;obtain⟨l4,o4,_,X,Y⟩:=T.bool x .i64;rw[show(((c:Int) == (b:Int))&&decide ((j:Int)<k))=false by rw[Bool.and_eq_false_iff];left;rw[Nj];omega];have y:((c:Int) != (b:Int))=true:=by rw[wCD];omega
  refine ee (a:= .bool true) ?_ hq;show(oB (fI 5 (V.ptr lx 0)) λZ=>_)=_;simp only[fi,fe,E,N,C,D,R,S,X,Y,nP,y];rfl
theorem Oi(o:zbV u oW Hv M9)(g:Good u)(G:eo F h cs)(e:ym F h u vv vb vs)(A:iq eN F h oW wb)(hp:iq eN F h Hv wp)(B:iq (eL eB) F h M9 wd){s b k:Nat}{fs:List Fm}(a:u.en[s]? =some fs)(p:b<u.blocks.length)(hs:∀w∈gN fs,∃c j,At u w c j/\(c=b/\j<k\/c≠b/\vO (next u) c b))
  (H:∀F' h',Sn F h F' h'->eo F' h' cs->Q (.bool true) h'):cP CS jj [.agg (T6 u vv vb vs wb wp wd),.I s,.I b,.I k] h Q:=by
 refine yZ rfl rfl ?_;unfold pJ;refine jS G (by simp only[T6,ey,e.v.one,e.b.one,e.s.one,A.one,hp.one,B.one];rfl) λY C D=>?_;generalize h.next=lx at*;have I:=e.since D;obtain⟨l1,Z,f,_,J,K,_,L⟩:=I.st a;refine ee (fe _ _ _) (oF (C.ld 0 rfl rfl) (ee J (ee K ?_)));refine NS C L (zN g s fs a) λm M N O P R=>?_;have S:=DW (fs:=fs) (zN g s fs a).2;have:=(zN g s fs a).1;have q:=D.trans O
 refine xm (λr l h'=>∃i:Nat,l=[.I b,.I k,.ptr lx 0,N,.I (i:Nat)]/\i+r=(gN fs).length/\Sn F h m h'/\Sn m M m h'/\eo m h' (ez lx _ (T6 u vv vb vs wb wp wd)::cs)) ?_ (k:=(gN fs).length)
  ⟨0,rfl,by omega,q,Sn.refl _ _,P⟩
 rintro r _ _ _ _ _ T ⟨i,⟨⟩,hk,d,n,t⟩;unfold oS;have E:=R.since n;refine ee E.len ?_;by_cases hi:i<(gN fs).length
 ·refine gB ?_;have U:=hO hi;obtain⟨c,j,y,z⟩:=hs _ (zd hi);generalize (gN fs)[i]=x at*;obtain⟨l4,o4,_,V,W⟩:=E.nat U .i64;refine ee (t.rh 0 rfl rfl) (ee V (ee W ?_));refine Gm o t (e.since d) (A.since d) (hp.since d) (B.since d) y p z λh4 s4 X=>?_;refine⟨s4.next,qt (gv rfl ?_)⟩;exact fM ⟨r-1,by omega,i+1,rfl,by omega,d.trans s4,n.trans s4,X⟩
 ·exact iJ (H m T d t.tail)
end
