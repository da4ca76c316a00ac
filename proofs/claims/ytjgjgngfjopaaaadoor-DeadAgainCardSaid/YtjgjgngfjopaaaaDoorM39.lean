/- Parts. -/
import Derived.Test.YtjgjgngfjopaaaaDoorM28
import Derived.Test.YtjgjgngfjopaaaaDoorM36
namespace Go.Proofs.YtjgjgngfjopaaaaDoor.Hx
open Un Dm
def QuR(ty:Nat)(F:Nat->Prop)(h:Hp)(xs:List Nat)(v:V):Prop:=(v = .ee/\xs=[])\/∃t pre post,v = .slice t pre.length xs.length/\t<h.next/\¬F t/\h.get t=some (.cells ty 1 true false (pre++hO xs++post))/\gv pre=true/\gv post=true
def XV(ty:Nat)(xs:List Nat)(v:V):Pc where
 lX:=Loc v
 ok F h:=QuR ty F h xs v
 JC:=λ{F h} a l b=>by
  rcases a with⟨rfl,_⟩|⟨t,pre,post,rfl,c,d,_⟩
  ·exact b.elim
  ·obtain rfl:t=l:=b;exact⟨c,d⟩
 fk:=λ{F h h'} a _ b f=>by
  rcases a with a|⟨t,pre,post,rfl,c,d,e,g⟩
  ·exact .inl a
  ·exact .inr ⟨t,pre,post,rfl,BL c f,d,(b t rfl).trans e,g⟩
 mono:=λ{F F' h} a _ b=>by
  rcases a with a|⟨t,pre,post,rfl,c,d,e⟩
  ·exact .inl a
  ·exact .inr ⟨t,pre,post,rfl,c,b t rfl,e⟩
def Yp:qA V where
 sz:=1
 rel _ _ n cs:=cs=[n]/\n.one=true
 len h:=by rw[h.1];rfl
 one h:=by rw[h.1,eQ,h.2];rfl
 fk _ h:=h
 mono _ h:=h
section
variable{F F':Nat->Prop}{h h':Hp}{cs:List Pc}{Q:fy}{u:U}{vv vb vs:V}
theorem L3(xs:List Nat):(hO xs).length=xs.length:=CD ..
theorem Cz:∀xs:List Nat,gv (hO xs)=true
 |[]=>rfl
 | x::xs=>by
   show gv (V.I (x:Nat)::hO xs)=true;rw[eQ,Cz xs];rfl
theorem QH(xs ys:List Nat):hO (xs++ys)=hO xs++hO ys:=Ji ..
theorem en.zdB(H:en F h cs)(i:Nat){ty:Nat}{xs:List Nat}{v:V}(hi:cs[i]? =some (XV ty xs v)):fF v=some (.I xs.length):=by
 rcases H.ok i _ hi with⟨rfl,rfl⟩|⟨t,pre,post,rfl,_⟩ <;> rfl
theorem en.zdS(H:en F h cs)(i:Nat){ty x:Nat}{xs:List Nat}{v:V}(hi:cs[i]? =some (XV ty (x::xs) v)) :
  ∃l o c,gD 1 v (.I 0)=some (.ptr l o)/\ez (.ptr l o) h=some (.I x)/\jh 1 v (some (.I 1)) none h=some c/\en F h (cs.set i (XV ty xs c)):=by
 rcases H.ok i _ hi with⟨_,a⟩|⟨t,pre,post,rfl,a,d,b,e,f⟩
 ·cases a
 ·refine⟨t,pre.length+0*1,.slice t (pre.length+1*1) ((x::xs).length-1),BT 1 t pre.length _ 0 .i64 (by simp),kX b ?_,?_,H.swap hi (.inr ⟨t,pre++[V.I x],post,?_,a,d,?_,?_,f⟩) λ_ h=>h⟩
  ·rw[Ek,Nat.zero_mul,X8,Rf (jj _),Nat.sub_self];rfl
  ·unfold jh ke;simp only[b,fj,Fa];rw[show hbound 0 (some (V.I 1))=some 1 from rfl,fj,kN _ (QN _),kN _ (NZ (by simp)),kN _ (by rw[NZ (jj _)];rfl)];rfl
  ·simp
  ·rw[b];simp[hO]
  ·rw[ng,e];rfl
theorem en.zdj(H:en F h cs)(i:Nat){ty jM BN y:Nat}{ro:Bool}{xs:List Nat}{v:V}(hi:cs[i]? =some (XV ty xs v))(u:jM<=1000)(w:xs.length<1000000) :
  ∃c h',fe ty 1 jM v (.slice h.next 0 1) (h.new (.cells BN 1 true ro (hO [y])))=some (.val c h')/\h.next+1<=h'.next/\en F h' (cs.set i (XV ty (xs++[y]) c))/\Sn F h F h':=by
 obtain ⟨g,x⟩:=H.grow (lV.new h (.cells BN 1 true ro (hO [y])));have l:lC (h.new (.cells BN 1 true ro (hO [y]))) 1 (.slice h.next 0 1)=some (1,hO [y]):=nB (k:=0) rfl;have K:(h.new (.cells BN 1 true ro (hO [y]))).next=h.next+1:=rfl;have hq:=g.ok i _ hi;generalize h.new (.cells BN 1 true ro (hO [y]))=b at*;have z:(xs.length+1)*jM<=1000000*1000:=Nat.mul_le_mul (by omega) u;have m:∃c h',fe ty 1 jM v (.slice h.next 0 1) b=some (.val c h')/\QuR ty F h' (xs++[y]) c/\lV (Loc v) b h'/\∀t,Loc c t->Loc v t\/b.next<=t:=by
  rcases hq with⟨rfl,rfl⟩|⟨t,pre,post,rfl,j,A,r,B,d⟩
  ·refine⟨.slice b.next 0 1,b.new (.cells ty 1 true false (hO [y])),?_,.inr ⟨b.next,[],[],rfl,KX _,λn=>Tw _ (g.fl _ n),fi _ _,rfl,rfl⟩,lV.new _ _,λt e=> .inr (X2 e)⟩;unfold fe;simp only[l,fj];show bB (gv (hO [y])) _=_;rw[kN _ (Cz _),kN _ (show Nat.ble (Nat.mul 1 jM) 70368744177664=true from NZ (show 1*jM<=_ by omega)),kN _ (show Nat.ble 1 70368744177664=true from rfl)]
  ·have e0:(pre++hO xs++post).length=pre.length+xs.length+post.length:=by rw[y6,y6,L3]
   cases post with
   | nil =>
     refine⟨.slice b.next 0 (xs.length+1),(b.put t (.cells ty 1 false false (pre++hO xs++[]))).new (.cells ty 1 true false (hO xs++hO [y])),?_,.inr ⟨b.next,[],[],by simp,KX _,λn=>Tw _ (g.fl _ n),?_,rfl,rfl⟩,(lV.put (S:=Loc (.slice t pre.length xs.length)) _ rfl j).trans (lV.new _ _),λt e=> .inr (X2 e)⟩
     ·unfold fe ke
      have f:sub (pre++hO xs++[]) pre.length (Nat.mul xs.length 1)=some (hO xs):=by
        show sub (pre++hO xs++[]) pre.length (xs.length*1)=_;rw[Fz (by rw[e0];simp),Eo,List.drop_left,X0 (by rw[L3];omega)]
      have a:Nat.ble (Nat.add pre.length (Nat.mul (Nat.add xs.length 1) 1)) (pre++hO xs++[]).length=false:=by
        rw[wBw];intro C;have:=Iu C;rw[e0]at this;have o:Nat.add pre.length (Nat.mul (Nat.add xs.length 1) 1)=pre.length+(xs.length+1)*1:=rfl;rw[o]at this;simp at this;omega
      simp only[l,fj];show bB (gv (hO [y])) _=_;rw[kN _ (Cz _)];simp only[r,fj,f,Cz];rw[kN _ (show true=true from rfl),kN _ (show(!false)=true from rfl),kN _ (QN _),a];simp only[sY];rw[kN _ (show Nat.ble (Nat.mul (Nat.add xs.length 1) jM) 70368744177664=true from NZ (show(xs.length+1)*jM<=_ by omega)),kN _ (show Nat.ble (Nat.add xs.length 1) 70368744177664=true from NZ (show xs.length+1<=70368744177664 by omega))]
     ·simp only[Eo,OO,QH]
      exact fi (b.put t _) _
   | cons p post=>
     refine⟨.slice t pre.length (xs.length+1),b.put t (.cells ty 1 true false (pre++hO (xs++[y])++post)),?_,.inr ⟨t,pre,post,by simp,j,A,gq _ j,B,?_⟩,lV.put _ rfl j,λt e=> .inl e⟩
     ·unfold fe ke
      have a:Nat.ble (Nat.add pre.length (Nat.mul (Nat.add xs.length 1) 1)) (pre++hO xs++p::post).length=true:=by
        refine NZ ?_;show pre.length+(xs.length+1)*1<=_;rw[e0,Dz];omega
      have q:p7 (Nat.add pre.length (Nat.mul xs.length 1)) (pre++hO xs++p::post) (hO [y])=some (pre++hO (xs++[y])++post):=by
        have s:(hO [y]).length=1:=rfl;have o:(pre++hO xs).length=pre.length+xs.length:=by rw[y6,L3]
        rw[show Nat.add pre.length (Nat.mul xs.length 1)=pre.length+xs.length by show pre.length+xs.length*1=_;omega,Cc (by rw[e0,s,Dz];omega),s];congr 1;rw[<-o,List.take_left,QH,<-ZQ,List.drop_left];simp
      simp only[l,fj];show bB (gv (hO [y])) _=_;rw[kN _ (Cz _)];simp only[r,fj];rw[kN _ (show true=true from rfl),kN _ (show(!false)=true from rfl),kN _ (QN _),a];simp only[q,fj]
     ·rw[eQ]at d
      cases hp:p.one with
      |true=>rw[hp]at d;exact d
      |false=>rw[hp]at d;cases d
 obtain⟨c,h',D,E,k3,G⟩:=m;obtain⟨I,J⟩:=g.G9 (p:=XV ty (xs++[y]) c) hi k3 E G;exact⟨c,h',D,by have:=k3.next;omega,I,x.trans J⟩
theorem Kt{a n:Nat}(b:a<n)(H:Q (.bool true) h):cP CS gL [.I a,.I n] h Q:=by
 refine GI rfl rfl ?_;unfold yN;refine ed (mW ..) ?_;simp only[fj,jD,jU,gU];rw[J6 (show(0:Int)<=(a:Nat) by omega),J6 (show(a:Int)<(n:Nat) by omega)];exact H
theorem RO{op:Nat}(H:Q (.bool (Ii op)) h):cP CS jz [.I op] h Q:=by
 refine C0 rfl rfl ?_;unfold wG;refine ed (jD ..) ?_;simp only[fj,gQ,xQ,gU];have e:(decide ((op:Int)<19) ||((op:Int) == 21))=Ii op:=by
  unfold Ii;rw[show((op:Int) == 21)=(op == 21) from Vv _ 21];congr 1;rw[decide_eq_decide];omega
 rw[e];exact H
theorem iC.zc4{fs:List Fm}{f:V}(a:iC eF F h fs f){i:Nat}{x:Fm}(d:fs[i]? =some x) :
  ∃l o a b,F l/\gD 4 f (.I i)=some (.ptr l o)/\ez (.ptr l (o+2)) h=some a/\ez (.ptr l (o+3)) h=some b/\iC eN F h x.locals a/\iC eN F h x.stack b:=by
 obtain⟨hi,rfl⟩:=iR.1 d;obtain⟨l,o,w,e,g,m,⟨a,b,rfl,j,k⟩,c⟩:=a.ix hi .i64;exact⟨l,o,a,b,e,g,c 2 a rfl,c 3 b rfl,j,k⟩
theorem C9:∀{fs:List Fm},(∀f∈fs,f.locals.length<=40/\f.stack.length<=60)->(gJ fs).length<=fs.length*100
 |[],_=>by simp[gJ]
 | f::fs,hf=>by
   have a:=C9 (fs:=fs) λf b=>hf f (Ud _ b);obtain⟨c,d⟩:=hf f (US ..);unfold gJ at a⊢;simp only[wBu,y6,Dz];omega
theorem NJ{fs:List Fm}{f:V}(C:en F h cs)(hs:iC eF F h fs f)(i:fs.length<=30/\∀f∈fs,f.locals.length<=40/\f.stack.length<=60)
  (H:∀F' h' v,Sn F h F' h'->en F' h' cs->iC eN F' h' (gJ fs) v->Q v h'):cP CS jR [.agg [f]] h Q:=by
 refine CC rfl rfl ?_;unfold uE;refine mH C (by simp only[eQ,hs.one];rfl) λt m u=>?_;generalize h.next=n at*;have m:en F t (eR eN ey [] .ee::ev n 60 [f]::cs):=m.add .nil λ_ h=>h
 refine zF (λk l h'=>∃(j:Nat) (v:V),l=[.ptr n 0,v,.I j]/\j+k=fs.length/\Sn F t F h'/\en F h' (eR eN ey (gJ (fs.take j)) v::ev n 60 [f]::cs)) ?_ (k:=fs.length)
  ⟨0,_,rfl,by omega,Sn.refl _ _,m⟩
 rintro k _ v _ D ⟨j,_,⟨⟩,R,p,b⟩;unfold qd;have e:=(hs.since u).since p;refine oF (b.ld 1 rfl rfl) (ed e.len ?_);by_cases hj:j<fs.length;rotate_left
 ·refine iI ?_;rw[X0 (by omega)]at b;obtain⟨d,g,E⟩:=b.lO 0 rfl;simp only[iY]at d;exact H _ _ _ ((u.trans p).trans g) d.tail.tail E
 refine gG ?_;obtain⟨l,o,a,c,G,w,I,x,J,K⟩:=e.zc4 (gP hj);obtain⟨S,T⟩:=i.2 _ (zq hj);have hlen:=C9 (fs:=fs.take j) λf L=>i.2 f (wB9 L);rw[GX]at hlen;have q:(gJ (fs.take j)).length<=3000:=by
  have:=i.1;have:min j fs.length<=30:=by omega
  omega
 refine oF (b.ld 1 rfl rfl) (ed w (oF I (oF (b.ld 1 rfl rfl) (ed w (oF x ?_)))));obtain⟨y,z,e3,n3,d,g⟩:=b.M7 0 rfl (jM:=8) J (by decide) (by decide) (by omega);have r:fe 3 1 8 v a D=some (.val y z):=e3;rw[r,ei];simp only[iY]at d;refine⟨n3,iF x (g.fk _ G),d.ld 1 rfl rfl,?_⟩;obtain⟨A,M,N,O,B,s4⟩:=d.M7 0 rfl (jM:=8) (K.since g) (by decide) (by decide) (by simp only[y6];omega);have s:fe 3 1 8 y c z=some (.val A M):=N;rw[s,ei];simp only[iY]at B;refine⟨O,fN ⟨k-1,by omega,j+1,A,rfl,by omega,(p.trans g).trans s4,?_⟩⟩;have P:gJ (fs.take (j+1))=gJ (fs.take j)++fs[j].locals++fs[j].stack:=by
  rw[M9 hj];unfold gJ;simp only[Zz,wBu,List.flatMap_nil,Eo,Ek]
 rw[P];exact B
theorem ZI{xs:List Nat}{a b:V}(c:iC eN F h xs a)(d:iC eN F h xs b)(m:xs.length<1000000000)(H:Q (.bool true) h):cP CS mJ [a,b] h Q:=by
 refine Ee rfl rfl ?_;unfold w4;refine ed c.len (ed d.len (zN (gw rfl ?_)));refine Bm (λk l h'=>∃i:Nat,l=[a,b,.I (i:Nat)]/\i+k=xs.length/\h' = h) ?_ (k:=xs.length) ⟨0,rfl,by omega,rfl⟩;rintro k _ _ _ h' ⟨i,⟨⟩,n,rfl⟩;unfold tF;refine ed c.len ?_;by_cases hi:i<xs.length
 ·refine gG ?_;obtain⟨l,o,_,e,f⟩:=c.nat (gP hi) .i64;obtain⟨p,q,_,g,j⟩:=d.nat (gP hi) .i64;refine ed e (ed f (ed g (ed j (zN (gw rfl ?_)))));exact fN ⟨k-1,by omega,i+1,rfl,by omega,rfl⟩
 ·exact iI H
theorem V9(g:Good u)(R:en F h cs)(n:A0 F h u vv vb vs)(H:∀F' h' v,Sn F h F' h'->en F' h' cs->iC (eL eN) F' h' ((List.range u.blocks.length).map (Un.ahead u)) v->Q v h') :
  cP CS mg [.agg (uC u vv vb vs)] h Q:=by
 refine CV rfl rfl ?_;unfold wq;have nb:=g.nb;have pf:∀{l o k:Nat},fH k (.ptr l o)=some (.ptr l (o+k)):=eJ _ _ _;refine mH R n.one λc D G=>?_;generalize h.next=lu at*;refine oF (D.ld 0 rfl rfl) (ed (n.since G).b.len ?_);rw[jQ (z:=V.ee) rfl (by decide) (by omega),fE];obtain⟨I,S⟩:=D.Tk (E:=eN) (QL:=iP) (ty:=ey) u.blocks.length;have q:List.replicate u.blocks.length ([]:List Nat)=(List.range u.blocks.length).map (iz u 0 0):=by
  refine List.ext_getElem (by simp) λi c T=>?_;simp[Ir]
 rw[q]at I
 refine Av (λk l h'=>∃(i:Nat) (ds:List V),l=[.ptr lu 0,.slice c.next 0 u.blocks.length,.I i]/\i+k=u.blocks.length/\Sn F h F h'/\
  en F h' (E2 eN iP ey ((List.range u.blocks.length).map (iz u i 0)) (.slice c.next 0 u.blocks.length) ds::ev lu 30 (uC u vv vb vs)::cs)) ?_ (k:=u.blocks.length) ⟨0,_,rfl,by omega,G.trans S,I⟩
 rintro k _ _ _ U ⟨i,ds,⟨⟩,hk,r,s⟩;unfold rB;refine oF (s.ld 1 rfl rfl) (ed (n.since r).b.len ?_);by_cases hi:i<u.blocks.length;rotate_left
 ·refine iI ?_;obtain rfl:i=u.blocks.length:=by omega
  obtain ⟨W,X,s4,r4⟩:=s.TI 0 rfl;have e:(List.range u.blocks.length).map (iz u u.blocks.length 0)=(List.range u.blocks.length).map (Un.ahead u):=by
   refine Wr λb _=>oE u b
  rw[e]at r4;exact H W U _ (r.trans s4) X.tail.tail r4
 refine gG ?_;obtain⟨B,f⟩:∃B,u.blocks[i]? =some B:=⟨_,gP hi⟩
 have Y:B.next.length<=2:=FX g f
 refine AE (λk l h'=>∃(j:Nat) (ds:List V),l=[.ptr lu 0,.slice c.next 0 u.blocks.length,.I i,.I j]/\
  j+k=B.next.length/\Sn F h F h'/\en F h' (E2 eN iP ey ((List.range u.blocks.length).map (iz u i j)) (.slice c.next 0 u.blocks.length) ds::ev lu 30 (uC u vv vb vs)::cs)) ?_ (k:=B.next.length)
  ⟨0,ds,rfl,by omega,r,s⟩
 rintro Z _ _ _ _ J ⟨j,m,⟨⟩,aa,t,p⟩;unfold su;obtain⟨l7,o7,bv,bn,bp,_,K,_,_,L,_,M⟩:=(n.since t).nW f;refine oF (p.ld 1 rfl rfl) (ed K (oF M.next (ed L.len ?_)));by_cases hj:j<B.next.length;rotate_left
 ·refine iI ?_;obtain rfl:j=B.next.length:=by omega
  refine fN ⟨k-1,by omega,i+1,m,rfl,by omega,t,?_⟩;have e:(List.range u.blocks.length).map (iz u (i+1) 0)=(List.range u.blocks.length).map (iz u i B.next.length):=Wr λb _=>IT f;rw[e];exact p
 refine gG ?_;obtain⟨l8,o8,_,j1,j2⟩:=L.nat (gP hj) .i64;have x:B.next[j]<u.blocks.length:=g.nx i _ (by unfold next;rw[f];exact zq hj);have a:B.next[j]<((List.range u.blocks.length).map (iz u i j)).length:=by simpa using x
 have A:((List.range u.blocks.length).map (iz u i j))[B.next[j]]'a=iz u i j B.next[j]:=by simp
 obtain ⟨l,d,N,h6,h7,hd,hl,O,e2,e3,e4,e5,e6,P,s7⟩:=p.SX 0 rfl a (jM:=8) (BN:=3) (y:=i) (w:=[.I i]) (ro:=false) rfl (by decide) (by decide) (by
  rw[A];have:=oG g (i:=i) (j:=j) (b:=B.next[j]) (by omega) (by omega);omega)
 refine oF (p.ld 1 rfl rfl) (ed K (oF M.next (ed j1 (ed j2 (ed O (ed e2 ?_))))));rw[nR,fE];have C:fe 3 1 8 d (.slice J.next 0 1) (J.new (.cells 3 1 true false (hO [i])))=some (.val N h6):=e3;rw[C,ei];refine ed O ?_;rw[e5,ei];simp only[iY]at P;refine fN ⟨Z-1,by omega,j+1,m.set (B.next[j]) N,rfl,by omega,t.trans s7,?_⟩;have e:((List.range u.blocks.length).map (iz u i j)).set (B.next[j]) (((List.range u.blocks.length).map (iz u i j))[B.next[j]]'a++[i])=(List.range u.blocks.length).map (iz u i (j+1)):=by
  refine List.ext_getElem (by simp) λb c T=>?_;rw[List.getElem_set];simp only[List.getElem_map,List.getElem_range];rw[Is f (gP hj)];by_cases eb:B.next[j]=b
  ·subst eb;simp
  ·rw[if_neg eb,if_neg λh=>eb h.symm]
 rw[<-e];exact P
end
open Un Dm
section
variable{F F':Nat->Prop}{h h':Hp}{cs:List Pc}{Q:fy}{u:U}{vv vb vs nv:V}{Wy:List (List Nat)}
structure Nxs (n:Nat) (nx:Nat->List Nat) (Wy:List (List Nat)):Prop where
 n0:0<n
 n3:n<=300
 len:Wy.length=n
 at_:∀b:Nat,b<n->Wy[b]? =some (nx b)
 two:∀b:Nat,b<n->(nx b).length<=2
 lt:∀b:Nat,b<n->∀t∈nx b,t<n
theorem MJ{n:Nat}{nx:Nat->List Nat}(w:Nxs n nx Wy)(DN:Int)(H0:en F h cs)(hs:iC (eL eN) F h Wy nv)
  (H:∀h' v seen,Sn F h F h'->en F h' (eR eB jd seen v::cs)->seen.length=n->(∀b:Nat,seen[b]? =some true↔Sg nx DN b)->Q v h') :
  cP CS jI [nv,.I 0,.I DN] h Q:=by
 refine BI rfl rfl ?_;unfold tf;have n0:=w.n0;have n3:=w.n3;refine ed hs.len ?_;rw[w.len,jQ (z:=V.bool false) rfl (by decide) (by omega),fE];obtain⟨X,Y⟩:=H0.make (E:=eB) (ty:=jd) (y:=false) (u:=V.bool false) n rfl rfl;generalize h.new (.cells jd 1 true false (List.replicate n (V.bool false)))=h1 at*;generalize h.next=r at*;by_cases hb:DN=0
 ·refine gj (gw hb.symm (H h1 _ _ Y X Pl λb=>⟨λh=>?_,λh=>absurd h (U5 hb)⟩));rw[Wb]at h;split at h <;> cases h
 refine gj (gi (λh=>hb h.symm) ?_);obtain⟨l2,o2,i,e1,e2,_,I,s2⟩:=X.Ig 0 rfl (k:=0) (y:=true) (u:=V.bool true) (by rw[Pl];exact n0) rfl rfl rfl;refine ed e1 ?_;rw[e2,ei];simp only[iY]at I;have ep:jt 3 1 1 (V.I 0) [(0,V.I 0)]=some (.cells 3 1 true false (hO [0]),λl=> .slice l 0 1):=rfl;rw[ep,fE]
 have J:en F (i.new (.cells 3 1 true false (hO [0]))) (XV ey [0] (.slice i.next 0 1)::eR eB jd ((List.replicate n false).set 0 true) (.slice r 0 n)::cs)/\Sn F i F (i.new (.cells 3 1 true false (hO [0]))):=
  I.new (p:=XV ey [0] (.slice i.next 0 1)) _ (.inr ⟨i.next,[],[],rfl,KX _,I.fresh,fi _ _,rfl,rfl⟩) λl e=>e.symm
 obtain⟨J,s3⟩:=J;generalize i.new (.cells 3 1 true false (hO [0]))=h3 at*;generalize i.next=lq at*;have K:=(Y.trans s2).trans s3
 refine zl (λk l h'=>∃(seen:List Bool) (todo:List Nat) (s:V),l=[nv,.I DN,.slice r 0 n,s]/\k=todo.length+seen.count false/\Sn F h F h'/\Wo n nx DN none seen todo/\en F h' (XV ey todo s::eR eB jd seen (.slice r 0 n)::cs)) ?_ (k:=[0].length+((List.replicate n false).set 0 true).count false)
  ⟨_,_,_,rfl,rfl,K,Wo.start n0 hb,J⟩
 rintro k _ _ _ s h4 ⟨seen,todo,_,⟨⟩,hk,s4,W,B⟩;unfold pG;refine ed (B.zdB 0 rfl) ?_
 cases todo with
 | nil=>
   refine DY (gi (by simp) ?_)
   exact H h4 _ seen s4 B.tail W.len W.iff
 | cons b todo=>
   refine DY (gw (by simp <;> omega) ?_);obtain⟨la,oa,L,x1,x2,x3,M⟩:=B.zdS 0 rfl;refine ed x1 (ed x2 (ed x3 ?_));simp only[iY]at M;obtain⟨Z,BP⟩:=W.pop;have o:b<n:=by
     have:=(iR.1 (W.work b (by simp))).1;rw[W.len]at this;exact this
   have aa:=w.two b o
   refine zb (λC l h'=>∃(j:Nat) (a:List Bool) (d:List Nat) (s:V),l=[nv,.I DN,.slice r 0 n,s,.I (b:Nat),.I (j:Nat)]/\j+C=(nx b).length/\d.length+a.count false+1<=k/\Sn F h F h'/\Wo n nx DN (some (b,j)) a d/\en F h' (XV ey d s::eR eB jd a (.slice r 0 n)::cs)) ?_ (k:=(nx b).length)
     ⟨0,seen,todo,L,rfl,by omega,by rw[hk,Dz];omega,s4,Z,M⟩
   clear M B Z W s4;rintro C _ _ _ q _ _ h6 ⟨j,f,g,_,⟨⟩,ab,N,D,x,G⟩;unfold pD;obtain⟨lb,ob,wb,_,y1,y2,wr⟩:=(hs.since D).list (w.at_ b o) .i64;refine ed y1 (ed y2 (ed wr.len ?_));by_cases hj:j<(nx b).length
   ·refine gG ?_
    have O:=gP hj;have ac:=w.lt b o _ (zq hj);generalize (nx b)[j]=t at*;obtain⟨lc,oc,_,z1,z2⟩:=wr.nat O .i64;refine ed y1 (ed y2 (ed z1 (ed z2 (ed (tu ..) ?_))));have lT:=x.len;obtain⟨c,hc⟩:∃c,f[t]? =some c:=⟨_,gP (by omega)⟩
    obtain ⟨ld,od,q1,q2⟩:=G.GV 1 rfl hc .i64;rw[show jZ (.bool ((t:Int) != DN)) (oB (some (V.slice r 0 n)) λP=>oB (some (V.I (t:Nat))) λR=>oB (gD 1 P R) λS=>oB (ez S h6) λT=>qz .not T)=some (.bool (((t:Int) != DN)&&!c)) from by
      simp only[fj,q1,q2];show jZ (.bool _) (some (.bool (!c)))=_;rw[jU]]
    rw[gU];refine js ?_;have ae:=x.less;by_cases cnd:(t:Int)≠DN/\c=false
    ·refine gw (by rw[uZ,X1,cnd.2];exact⟨cnd.1,rfl⟩) ?_
     rw[cnd.2]at hc;obtain⟨le,oe,h7,e7,e8,_,H7,s7⟩:=G.Ig 1 rfl (k:=t) (y:=true) (u:=V.bool true) (by omega) rfl rfl rfl;refine ed e7 ?_;rw[e8,ei];simp only[iY,lj]at H7;rw[nR,fE];obtain⟨A,h8,e9,_,H8,s8⟩:=H7.zdj 0 rfl (jM:=8) (BN:=3) (y:=t) (ro:=false) (by decide) (by omega);have U:fe 3 1 8 q (.slice h7.next 0 1) (h7.new (.cells 3 1 true false (hO [t])))=some (.val A h8):=e9;rw[U,ei];simp only[iY]at H8;refine oW ?_;unfold lU;refine jO (m:=1) (by omega) (by omega) ⟨C-1,by omega,j+1,_,_,A,rfl,by omega,?_,(D.trans s7).trans s8,x.push O BP cnd.1 hc,H8⟩;have:=Un.count_set hc;rw[y6,X4];omega
    ·refine gi (λh=>cnd ?_) ?_
     ·rw[uZ,X1]at h
      exact⟨h.1,by simpa using h.2⟩
     refine oW ?_;unfold lU;refine jO (m:=1) (by omega) (by omega) ⟨C-1,by omega,j+1,_,_,q,rfl,by omega,N,D,x.skip O ?_,G⟩;by_cases e:(t:Int)=DN
     ·exact .inl e
     ·right
      rw[hc]
      cases c with
      |true=>rfl
      |false=>exact absurd ⟨e,rfl⟩ cnd
   ·refine iI ?_
    obtain rfl:j=(nx b).length:=by omega
    exact⟨g.length+f.count false,by omega,f,g,q,rfl,rfl,D,x.next,G⟩
theorem VK:(Yp).rel F h .ee [.ee]:=⟨rfl,rfl⟩
def zc1(n:Nat)(nx:Nat->List Nat)(MQ:List (List Bool)):Prop:=MQ.length=n/\∀a:Nat,a<n->∃row,MQ[a]? =some row/\row.length=n/\∀b:Nat,b<n->(row[b]? =some true↔ve nx a b)
theorem Zf{n:Nat}{nx:Nat->List Nat}(w:Nxs n nx Wy)(Y:en F h cs)(hs:iC (eL eN) F h Wy nv)
  (H:∀F' h' v MQ,Sn F h F' h'->en F' h' cs->iC (eL eB) F' h' MQ v->zc1 n nx MQ->Q v h') :
  cP CS mI [nv,.I 0] h Q:=by
 refine En rfl rfl ?_;unfold xi;have n0:=w.n0;have n3:=w.n3;refine ed hs.len ?_;rw[w.len,jQ (z:=V.ee) rfl (by decide) (by omega),fE];obtain⟨Z,s1⟩:=Y.make (E:=Yp) (ty:=Lj) (y:= .ee) (u:= .ee) n VK rfl;generalize h.new (.cells Lj 1 true false (List.replicate n V.ee))=h1 at*;generalize h.next=t at*
 refine Bx (λk l h'=>∃(F':Nat->Prop) (a:Nat) (ds:List V) (MQ:List (List Bool)),l=[nv,.I 0,.slice t 0 n,.I a]/\a+k=n/\Sn F h F' h'/\en F' h' (eR Yp Lj ds (.slice t 0 n)::cs)/\ds.length=n/\MQ.length=n/\
   ∀c:Nat,c<a->∃row d,MQ[c]? =some row/\ds[c]? =some d/\iC eB F' h' row d/\row.length=n/\∀b:Nat,b<n->(row[b]? =some true↔ve nx c b)) ?_ (k:=n)
  ⟨F,0,_,List.replicate n [],rfl,by omega,s1,Z,Pl,Pl,λc hc=>by omega⟩
 rintro k _ _ _ _ N ⟨x,a,ds,MQ,⟨⟩,hk,A,O,D,lT,f⟩;unfold ta;refine ed (hs.since A).len ?_;rw[w.len];by_cases ha:a<n;rotate_left
 ·refine iI ?_;obtain rfl:a=n:=by omega
  obtain⟨B,o,r3⟩:=O.lO 0 rfl;simp only[iY]at B;refine H _ N _ MQ (A.trans o) B.tail (r3.reR (E':=eL eB) rfl (λ_ h=>h) (by omega) λc d row ws hd P hw=>?_) ⟨lT,λc hc=>?_⟩
  ·have j:=(iR.1 P).1;obtain⟨R,d',g,m,e3,_⟩:=f c (by omega);rw[hd]at m;rw[P]at g;cases g;cases m;obtain⟨rfl,_⟩:=hw;exact⟨d,rfl,e3.mono o.mono⟩
  ·obtain⟨row,d,g,_,_,G⟩:=f c hc;exact⟨row,g,G⟩
 refine gG ?_;refine MJ w (a:Nat) O (hs.since A) λS T seen o B aa I=>?_;have p:=A.trans o;refine ed (hs.since p).len ?_;rw[w.len,jQ (z:=V.bool false) rfl (by decide) (by omega),fE];obtain⟨H4,s4⟩:=B.make (E:=eB) (ty:=jd) (y:=false) (u:=V.bool false) n rfl rfl;generalize S.new (.cells jd 1 true false (List.replicate n (V.bool false)))=h4 at*;generalize S.next=lr at*;obtain⟨l5,o5,h5,g,m,_,U,W⟩:=H4.Ig 2 rfl (k:=a) (y:=V.slice lr 0 n) (u:=V.slice lr 0 n) (by omega) rfl rfl ⟨rfl,rfl⟩;refine ed g ?_;rw[m,ei];simp only[iY,lj]at U;have J:=(p.trans s4).trans W;have K:=(o.trans s4).trans W
 refine By (λL l h'=>∃(b:Nat) (cur:List Bool),l=[nv,.I 0,.slice t 0 n,.I a,T,.I b]/\b+L=n/\Sn F h x h'/\Sn x N x h'/\cur.length=n/\(∀c:Nat,c<b->(cur[c]? =some true↔ve nx a c))/\
   en x h' (eR eB jd cur (.slice lr 0 n)::eR eB jd seen T::eR Yp Lj (ds.set a (.slice lr 0 n)) (.slice t 0 n)::cs)) ?_ (k:=n)
  ⟨0,_,rfl,by omega,J,K,Pl,λc hc=>by omega,U⟩
 rintro L _ _ _ _ _ _ h6 ⟨b,cur,⟨⟩,ab,M,q,j,i,C⟩;unfold ti;refine ed (hs.since M).len ?_;rw[w.len];by_cases hb:b<n
 ·refine gG ?_;obtain⟨lx,ox,dx,x1,x2,X⟩:=C.Tz 2 rfl (k:=a) (by rw[Mi];omega) .i64 rfl;have hg:(ds.set a (V.slice lr 0 n))[a]'(by rw[Mi];omega)=V.slice lr 0 n:=List.getElem_set_self _;rw[hg]at X;obtain rfl:dx=V.slice lr 0 n:=by have:=X.1;simpa using this
  obtain⟨c,hc⟩:∃c,seen[b]? =some c:=⟨_,gP (by omega)⟩
  obtain⟨ly,oy,y1,y2⟩:=C.GV 1 rfl hc .i64;refine ed x1 (ed x2 (ed y1 (ed y2 (YX ?_))));obtain⟨lz,oz,h7,z1,z2,zn,r,s⟩:=C.Ig 0 rfl (k:=b) (y:=!c) (u:=V.bool (!c)) (by omega) rfl rfl rfl;refine ed z1 ?_;rw[z2,ei];simp only[iY]at r;refine⟨zn,fN ⟨L-1,by omega,b+1,_,rfl,by omega,M.trans s,q.trans s,by rw[Mi];exact j,λe he=>?_,r⟩⟩;by_cases eb:e=b
  ·subst eb;rw[EK (by omega),<-UK,<-I e,hc];cases c <;> simp
  ·rw[C8 λh=>eb h.symm];exact i e (by omega)
 ·refine iI ?_;obtain rfl:b=n:=by omega
  obtain⟨r,s,r7⟩:=C.lO 0 rfl;simp only[iY]at r;refine fN ⟨k-1,by omega,_,a+1,_,MQ.set a cur,rfl,by omega,M.trans s,r.tail.tail,by rw[Mi];exact D,by rw[Mi];exact lT,λc hc=>?_⟩;by_cases e:c=a
  ·subst e;exact⟨cur,_,EK (by omega),EK (by omega),r7,j,i⟩
  ·rw[C8 λh=>e h.symm,C8 λh=>e h.symm];obtain⟨row,d,g,m,e3,G⟩:=f c (by omega);exact⟨row,d,g,m,(e3.since q).since s,G⟩
structure zbt (u:U) (nW G4:List Nat) (MQ:List (List Bool)):Prop where
 at_:∀(v b k:Nat),At u v b k->nW[v]? =some b/\G4[v]? =some k
 Rg:zc1 u.blocks.length (next u) MQ
def TA(u:U)(vv vb vs wb wp wd:V):List V:=[.I u.func,.I u.pc,vv,vb,vs,wb,wp,wd]
variable{nW G4:List Nat}{MQ:List (List Bool)}{wb wp wd:V}
theorem Gb(o:zbt u nW G4 MQ)(G:en F h cs)(i:A0 F h u vv vb vs)(z:iC eN F h nW wb)(hp:iC eN F h G4 wp)(A:iC (eL eB) F h MQ wd){a b k c j:Nat}(e:At u a c j)(l:b<u.blocks.length)(hs:c=b/\j<k\/c≠b/\ve (next u) c b)
  (H:∀h',Sn F h F h'->en F h' cs->Q (.bool true) h'):cP CS hX [.agg (TA u vv vb vs wb wp wd),.I a,.I b,.I k] h Q:=by
 refine yy rfl rfl ?_;unfold oY;obtain⟨I,J⟩:=o.at_ a c j e;refine mH G (by simp only[TA,eQ,i.v.one,i.b.one,i.s.one,z.one,hp.one,A.one];rfl) λd f g=>?_;generalize h.next=lx at*;obtain⟨l1,o1,_,C,D⟩:=(z.since g).nat I .i64;obtain⟨l2,o2,_,K,L⟩:=(hp.since g).nat J .i64;have E:ez (.ptr lx (0+5)) d=some wb:=f.ld 0 rfl rfl;have M:ez (.ptr lx (0+6)) d=some wp:=f.ld 0 rfl rfl;have N:ez (.ptr lx (0+7)) d=some wd:=f.ld 0 rfl rfl;have m:c<u.blocks.length:=by
  obtain⟨B,O,_⟩:=e;exact(iR.1 O).1
 obtain ⟨row,r1,r2,P⟩:=o.Rg.2 c m;obtain⟨l3,o3,d3,_,R,S,T⟩:=(A.since g).list r1 .i64;have hq:=H d g f.tail;refine oF E (ed C (ed D (ed (gQ ..) ?_)));rw[show jZ (.bool ((c:Int) == (b:Int))) (oB (fH 6 (V.ptr lx 0)) λn=>oB (ez n d) λp=>oB (some (V.I a)) λq=>oB (gD 1 p q) λr=>oB (ez r d) λt=>oB (some (V.I k)) λw=>eo .lss 3 t w)=some (.bool (((c:Int) == (b:Int))&&decide ((j:Int)<k))) from by
  simp only[fj,eJ,M,K,L,jD,jU]]
 rw[gU];rcases hs with⟨rfl,U⟩|⟨U,W⟩
 ·rw[show(((c:Int) == (c:Int))&&decide ((j:Int)<k))=true by rw[uZ];exact⟨by simp,J6 (by omega)⟩];exact ed rfl hq
 ·have x:=(P b l).2 W;obtain⟨l4,o4,_,X,Y⟩:=T.bool x .i64;rw[show(((c:Int) == (b:Int))&&decide ((j:Int)<k))=false by rw[Bool.and_eq_false_iff];left;rw[MU];omega];have y:((c:Int) != (b:Int))=true:=by rw[X1];omega
  refine ed (a:= .bool true) ?_ hq;show(oB (fH 5 (V.ptr lx 0)) λZ=>_)=_;simp only[fj,eJ,E,N,C,D,R,S,X,Y,tu,y];rfl
theorem NK(o:zbt u nW G4 MQ)(g:Good u)(G:en F h cs)(e:A0 F h u vv vb vs)(A:iC eN F h nW wb)(hp:iC eN F h G4 wp)(B:iC (eL eB) F h MQ wd){s b k:Nat}{fs:List Fm}(a:u.eh[s]? =some fs)(p:b<u.blocks.length)(hs:∀w∈gJ fs,∃c j,At u w c j/\(c=b/\j<k\/c≠b/\ve (next u) c b))
  (H:∀F' h',Sn F h F' h'->en F' h' cs->Q (.bool true) h'):cP CS iV [.agg (TA u vv vb vs wb wp wd),.I s,.I b,.I k] h Q:=by
 refine yB rfl rfl ?_;unfold oU;refine mH G (by simp only[TA,eQ,e.v.one,e.b.one,e.s.one,A.one,hp.one,B.one];rfl) λY C D=>?_;generalize h.next=lx at*;have I:=e.since D;obtain⟨l1,Z,f,_,J,K,_,L⟩:=I.st a;refine ed (eJ _ _ _) (oF (C.ld 0 rfl rfl) (ed J (ed K ?_)));refine NJ C L (zg g s fs a) λm M N O P R=>?_;have S:=C9 (fs:=fs) (zg g s fs a).2;have:=(zg g s fs a).1;have q:=D.trans O
 refine wJ (λr l h'=>∃i:Nat,l=[.I b,.I k,.ptr lx 0,N,.I (i:Nat)]/\i+r=(gJ fs).length/\Sn F h m h'/\Sn m M m h'/\en m h' (ev lx _ (TA u vv vb vs wb wp wd)::cs)) ?_ (k:=(gJ fs).length)
  ⟨0,rfl,by omega,q,Sn.refl _ _,P⟩
 rintro r _ _ _ _ _ T ⟨i,⟨⟩,hk,d,n,t⟩;unfold nN;have E:=R.since n;refine ed E.len ?_;by_cases hi:i<(gJ fs).length
 ·refine gG ?_;have U:=gP hi;obtain⟨c,j,y,z⟩:=hs _ (zq hi);generalize (gJ fs)[i]=x at*;obtain⟨l4,o4,_,V,W⟩:=E.nat U .i64;refine ed (t.wS 0 rfl rfl) (ed V (ed W ?_));refine Gb o t (e.since d) (A.since d) (hp.since d) (B.since d) y p z λh4 s4 X=>?_;refine⟨s4.next,qi (gw rfl ?_)⟩;exact fN ⟨r-1,by omega,i+1,rfl,by omega,d.trans s4,n.trans s4,X⟩
 ·exact iI (H m T d t.tail)
end
