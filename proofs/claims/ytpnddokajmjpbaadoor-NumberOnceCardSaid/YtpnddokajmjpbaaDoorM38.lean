/- Parts. -/
import Derived.Test.YtpnddokajmjpbaaDoorM28
import Derived.Test.YtpnddokajmjpbaaDoorM36
namespace Go.Proofs.YtpnddokajmjpbaaDoor.Hx
open Go.Proofs.YtpnddokajmjpbaaDoor.Un Go.Proofs.YtpnddokajmjpbaaDoor.Dm
def QuR (ty:Nat)(F:Nat->Prop)(h:Hp)(xs:List Nat)(v:V):Prop:=
 (v = .ec/\xs=[])\/∃t pre post,v = .slice t pre.length xs.length/\t<h.next/\¬F t/\h.get t=some (.cells ty 1 true false (pre++gN xs++post))/\fV pre=true/\fV post=true
def VJ (ty:Nat)(xs:List Nat)(v:V):Pc where
 j5:=Loc v
 ok F h:=QuR ty F h xs v
 IP:=λ{F h} a l b=>by
  rcases a with⟨rfl,_⟩|⟨t,pre,post,rfl,c,d,_⟩
  ·exact b.elim
  ·obtain rfl:t=l:=b;exact⟨c,d⟩
 fc:=λ{F h h'} a _ b f=>by
  rcases a with a|⟨t,pre,post,rfl,c,d,e,g⟩
  ·exact .inl a
  ·exact .inr ⟨t,pre,post,rfl,Ac c f,d,(b t rfl).trans e,g⟩
 mono:=λ{F F' h} a _ b=>by
  rcases a with a|⟨t,pre,post,rfl,c,d,e⟩
  ·exact .inl a
  ·exact .inr ⟨t,pre,post,rfl,c,b t rfl,e⟩
def WD:nQ V where
 sz:=1
 rel _ _ n cs:=cs=[n]/\n.one=true
 len h:=by rw[h.1];rfl
 one h:=by rw[h.1,eJ,h.2];rfl
 fc _ h:=h
 mono _ h:=h
section
variable{F F':Nat->Prop}{h h':Hp}{cs:List Pc}{Q:fx}{u:U}{vv vb vs:V}
theorem JQ (xs:List Nat):(gN xs).length=xs.length:=Fk ..
theorem AY:∀xs:List Nat,fV (gN xs)=true
 |[]=>rfl
 | x::xs=>by
   show fV (V.int .i64 (x:Nat)::gN xs)=true;rw[eJ,AY xs];rfl
theorem Ov (xs ys:List Nat):gN (xs++ys)=gN xs++gN ys:=EV ..
theorem ei.zbt (H:ei F h cs)(i:Nat){ty:Nat}{xs:List Nat}{v:V}(hi:cs[i]? =some (VJ ty xs v)):fD v=some (.int .i64 xs.length):=by
 rcases H.ok i _ hi with⟨rfl,rfl⟩|⟨t,pre,post,rfl,_⟩ <;> rfl
theorem ei.zbd (H:ei F h cs)(i:Nat){ty x:Nat}{xs:List Nat}{v:V}(hi:cs[i]? =some (VJ ty (x::xs) v)) :
  ∃l o c,gD 1 v (.int .i64 0)=some (.ptr l o)/\ev (.ptr l o) h=some (.int .i64 x)/\iJ 1 v (some (.int .i64 1)) none h=some c/\ei F h (cs.set i (VJ ty xs c)):=by
 rcases H.ok i _ hi with⟨_,a⟩|⟨t,pre,post,rfl,a,d,b,e,f⟩
 ·cases a
 ·refine⟨t,pre.length+0*1,.slice t (pre.length+1*1) ((x::xs).length-1),vL 1 t pre.length _ 0 .i64 (by simp),jR b ?_,?_,H.swap hi (.inr ⟨t,pre++[V.int .i64 x],post,?_,a,d,?_,?_,f⟩) λ_ h=>h⟩
  ·rw[Cy,Nat.zero_mul,VP,Rr (iW _),Nat.sub_self];rfl
  ·unfold iJ jq;simp only[b,fh,CU];rw[show hbound 0 (some (V.int .i64 1))=some 1 from rfl,fh,jm _ (MV _),jm _ (I8 (by simp)),jm _ (by rw[I8 (iW _)];rfl)];rfl
  ·simp
  ·rw[b];simp[gN]
  ·rw[mD,e];rfl
theorem ei.Z8 (H:ei F h cs)(i:Nat){ty jr zF y:Nat}{ro:Bool}{xs:List Nat}{v:V}(hi:cs[i]? =some (VJ ty xs v))(hb:jr<=1000)(s:xs.length<1000000) :
  ∃c h',eR ty 1 jr v (.slice h.next 0 1) (h.new (.cells zF 1 true ro (gN [y])))=some (.val c h')/\h.next+1<=h'.next/\ei F h' (cs.set i (VJ ty (xs++[y]) c))/\Sn F h F h':=by
 obtain ⟨f,u⟩:=H.grow (jZ.new h (.cells zF 1 true ro (gN [y])));have hx:jM (h.new (.cells zF 1 true ro (gN [y]))) 1 (.slice h.next 0 1)=some (1,gN [y]):=lP (k:=0) rfl;have I:(h.new (.cells zF 1 true ro (gN [y]))).next=h.next+1:=rfl;have hq:=f.ok i _ hi;generalize h.new (.cells zF 1 true ro (gN [y]))=b at*;have w:(xs.length+1)*jr<=1000000*1000:=Nat.mul_le_mul (by omega) hb;have j:∃c h',eR ty 1 jr v (.slice h.next 0 1) b=some (.val c h')/\QuR ty F h' (xs++[y]) c/\jZ (Loc v) b h'/\∀t,Loc c t->Loc v t\/b.next<=t:=by
  rcases hq with⟨rfl,rfl⟩|⟨t,pre,post,rfl,g,x,o,z,d⟩
  ·refine⟨.slice b.next 0 1,b.new (.cells ty 1 true false (gN [y])),?_,.inr ⟨b.next,[],[],rfl,IS _,λl=>Pj _ (f.fl _ l),fg _ _,rfl,rfl⟩,jZ.new _ _,λt ht=> .inr (VH ht)⟩;unfold eR;simp only[hx,fh];show bB (fV (gN [y])) _=_;rw[jm _ (AY _),jm _ (show Nat.ble (Nat.mul 1 jr) 70368744177664=true from I8 (show 1*jr<=_ by omega)),jm _ (show Nat.ble 1 70368744177664=true from rfl)]
  ·have e0:(pre++gN xs++post).length=pre.length+xs.length+post.length:=by rw[zL,zL,JQ]
   cases post with
   | nil =>
     refine⟨.slice b.next 0 (xs.length+1),(b.put t (.cells ty 1 false false (pre++gN xs++[]))).new (.cells ty 1 true false (gN xs++gN [y])),?_,.inr ⟨b.next,[],[],by simp,IS _,λl=>Pj _ (f.fl _ l),?_,rfl,rfl⟩,(jZ.put (S:=Loc (.slice t pre.length xs.length)) _ rfl g).trans (jZ.new _ _),λt ht=> .inr (VH ht)⟩
     ·unfold eR jq
      have e:sub (pre++gN xs++[]) pre.length (Nat.mul xs.length 1)=some (gN xs):=by
        show sub (pre++gN xs++[]) pre.length (xs.length*1)=_;rw[AE (by rw[e0];simp),Co,List.drop_left,VE (by rw[JQ];omega)]
      have a:Nat.ble (Nat.add pre.length (Nat.mul (Nat.add xs.length 1) 1)) (pre++gN xs++[]).length=false:=by
        rw[Y1];intro A;have:=G9 A;rw[e0]at this;have m:Nat.add pre.length (Nat.mul (Nat.add xs.length 1) 1)=pre.length+(xs.length+1)*1:=rfl;rw[m]at this;simp at this;omega
      simp only[hx,fh];show bB (fV (gN [y])) _=_;rw[jm _ (AY _)];simp only[o,fh,e,AY];rw[jm _ (show true=true from rfl),jm _ (show(!false)=true from rfl),jm _ (MV _),a];simp only[kI];rw[jm _ (show Nat.ble (Nat.mul (Nat.add xs.length 1) jr) 70368744177664=true from I8 (show(xs.length+1)*jr<=_ by omega)),jm _ (show Nat.ble (Nat.add xs.length 1) 70368744177664=true from I8 (show xs.length+1<=70368744177664 by omega))]
     ·simp only[Co,LG,Ov]
      exact fg (b.put t _) _
   | cons p post=>
     refine⟨.slice t pre.length (xs.length+1),b.put t (.cells ty 1 true false (pre++gN (xs++[y])++post)),?_,.inr ⟨t,pre,post,by simp,g,x,fP _ g,z,?_⟩,jZ.put _ rfl g,λt ht=> .inl ht⟩
     ·unfold eR jq
      have a:Nat.ble (Nat.add pre.length (Nat.mul (Nat.add xs.length 1) 1)) (pre++gN xs++p::post).length=true:=by
        refine I8 ?_;show pre.length+(xs.length+1)*1<=_;rw[e0,CM];omega
      have n:pC (Nat.add pre.length (Nat.mul xs.length 1)) (pre++gN xs++p::post) (gN [y])=some (pre++gN (xs++[y])++post):=by
        have q:(gN [y]).length=1:=rfl;have m:(pre++gN xs).length=pre.length+xs.length:=by rw[zL,JQ]
        rw[show Nat.add pre.length (Nat.mul xs.length 1)=pre.length+xs.length by show pre.length+xs.length*1=_;omega,yk (by rw[e0,q,CM];omega),q];congr 1;rw[<-m,List.take_left,Ov,<-V7,List.drop_left];simp
      simp only[hx,fh];show bB (fV (gN [y])) _=_;rw[jm _ (AY _)];simp only[o,fh];rw[jm _ (show true=true from rfl),jm _ (show(!false)=true from rfl),jm _ (MV _),a];simp only[n,fh]
     ·rw[eJ]at d
      cases hp:p.one with
      |true=>rw[hp]at d;exact d
      |false=>rw[hp]at d;cases d
 obtain⟨c,h',B,C,r,D⟩:=j;obtain⟨E,G⟩:=f.Ad (p:=VJ ty (xs++[y]) c) hi r C D;exact⟨c,h',B,by have:=r.next;omega,E,u.trans G⟩
theorem Ij {a n:Nat}(b:a<n)(H:Q (.bool true) h):cP CS gi [.int .i64 a,.int .i64 n] h Q:=by
 refine EA rfl rfl ?_;unfold xM;refine ed (mY ..) ?_;simp only[fh,om,ji,gI];rw[I9 (show(0:Int)<=(a:Nat) by omega),I9 (show(a:Int)<(n:Nat) by omega)];exact H
theorem Qa {op:Nat}(H:Q (.bool (EM op)) h):cP CS iY [.int .i64 op] h Q:=by
 refine BK rfl rfl ?_;unfold ux;refine ed (om ..) ?_;simp only[fh,iA,wM,gI];have e:(decide ((op:Int)<19) ||((op:Int) == 21))=EM op:=by
  unfold EM;rw[show((op:Int) == 21)=(op == 21) from Tv _ 21];congr 1;rw[decide_eq_decide];omega
 rw[e];exact H
theorem ik.zat {fs:List Fm}{f:V}(a:ik eF F h fs f){i:Nat}{x:Fm}(hx:fs[i]? =some x) :
  ∃l o a b,F l/\gD 4 f (.int .i64 i)=some (.ptr l o)/\ev (.ptr l (o+2)) h=some a/\ev (.ptr l (o+3)) h=some b/\ik eN F h x.locals a/\ik eN F h x.stack b:=by
 obtain⟨hi,rfl⟩:=iB.1 hx;obtain⟨l,o,w,d,e,k,⟨a,b,rfl,g,j⟩,c⟩:=a.ix hi .i64;exact⟨l,o,a,b,d,e,c 2 a rfl,c 3 b rfl,g,j⟩
theorem B2:∀{fs:List Fm},(∀f∈fs,f.locals.length<=40/\f.stack.length<=60)->(ie fs).length<=fs.length*100
 |[],_=>by simp[ie]
 | f::fs,hf=>by
   have a:=B2 (fs:=fs) λf b=>hf f (Mh _ b);obtain⟨c,d⟩:=hf f (Sk ..);unfold ie at a⊢;simp only[Za,zL,CM];omega
theorem Mk {fs:List Fm}{f:V}(C:ei F h cs)(hs:ik eF F h fs f)(i:fs.length<=30/\∀f∈fs,f.locals.length<=40/\f.stack.length<=60)
  (H:∀F' h' v,Sn F h F' h'->ei F' h' cs->ik eN F' h' (ie fs) v->Q v h'):cP CS jv [.agg [f]] h Q:=by
 refine AN rfl rfl ?_;unfold td;refine mf C (by simp only[eJ,hs.one];rfl) λt m u=>?_;generalize h.next=n at*;have m:ei F t (eQ eN en [] .ec::eo n 38 [f]::cs):=m.add .nil λ_ h=>h
 refine yX (λk l h'=>∃(j:Nat) (v:V),l=[.ptr n 0,v,.int .i64 j]/\j+k=fs.length/\Sn F t F h'/\ei F h' (eQ eN en (ie (fs.take j)) v::eo n 38 [f]::cs)) ?_ (k:=fs.length)
  ⟨0,_,rfl,by omega,Sn.refl _ _,m⟩
 rintro k _ v _ D ⟨j,_,⟨⟩,S,p,b⟩;unfold pS;have e:=(hs.since u).since p;refine oF (b.ld 1 rfl rfl) (ed e.len ?_);by_cases hj:j<fs.length;rotate_left
 ·refine iC ?_;rw[VE (by omega)]at b;obtain⟨d,g,r3⟩:=b.kE 0 rfl;simp only[iO]at d;exact H _ _ _ ((u.trans p).trans g) d.tail.tail r3
 refine gw ?_;obtain⟨l,o,a,c,E,w,G,x,I,J⟩:=e.zat (gQ hj)
 obtain ⟨T,U⟩:=i.2 _ (AO hj);have hlen:=B2 (fs:=fs.take j) λf K=>i.2 f (ZX K);rw[FY]at hlen;have q:(ie (fs.take j)).length<=3000:=by
  have:=i.1;have:min j fs.length<=30:=by omega
  omega
 refine oF (b.ld 1 rfl rfl) (ed w (oF G (oF (b.ld 1 rfl rfl) (ed w (oF x ?_)))));obtain⟨y,z,L,n3,d,g⟩:=b.J8 0 rfl (jr:=8) I (by decide) (by decide) (by omega);have r:eR 3 1 8 v a D=some (.val y z):=L;rw[r,ef];simp only[iO]at d;refine⟨n3,jj x (g.fc _ E),d.ld 1 rfl rfl,?_⟩;obtain⟨A,M,N,O,B,P⟩:=d.J8 0 rfl (jr:=8) (J.since g) (by decide) (by decide) (by simp only[zL];omega);have s:eR 3 1 8 y c z=some (.val A M):=N;rw[s,ef];simp only[iO]at B;refine⟨O,fM ⟨k-1,by omega,j+1,A,rfl,by omega,(p.trans g).trans P,?_⟩⟩;have R:ie (fs.take (j+1))=ie (fs.take j)++fs[j].locals++fs[j].stack:=by
  rw[Nw hj];unfold ie;simp only[X1,Za,List.flatMap_nil,Co,Cy]
 rw[R];exact B
theorem XA {xs:List Nat}{a b:V}(c:ik eN F h xs a)(hb:ik eN F h xs b)(j:xs.length<1000000000)(H:Q (.bool true) h):cP CS lW [a,b] h Q:=by
 refine CK rfl rfl ?_;unfold ve;refine ed c.len (ed hb.len (E6 (ig rfl ?_)));refine Ak (λk l h'=>∃i:Nat,l=[a,b,.int .i64 (i:Nat)]/\i+k=xs.length/\h' = h) ?_ (k:=xs.length) ⟨0,rfl,by omega,rfl⟩;rintro k _ _ _ h' ⟨i,⟨⟩,m,rfl⟩;unfold rX;refine ed c.len ?_;by_cases hi:i<xs.length
 ·refine gw ?_;obtain⟨l,o,_,d,e⟩:=c.nat (gQ hi) .i64;obtain⟨n,p,_,f,g⟩:=hb.nat (gQ hi) .i64;refine ed d (ed e (ed f (ed g (E6 (ig rfl ?_)))));exact fM ⟨k-1,by omega,i+1,rfl,by omega,rfl⟩
 ·exact iC H
theorem T2 (g:Good u)(R:ei F h cs)(n:zf F h u vv vb vs)(H:∀F' h' v,Sn F h F' h'->ei F' h' cs->ik (eL eN) F' h' ((List.range u.blocks.length).map (Un.ahead u)) v->Q v h') :
  cP CS lC [.agg (uC u vv vb vs)] h Q:=by
 refine BL rfl rfl ?_;unfold uk;have nb:=g.nb;have pf:∀{l o k:Nat},fH k (.ptr l o)=some (.ptr l (o+k)):=ez _ _ _;refine mf R n.one λc D G=>?_;generalize h.next=lu at*;refine oF (D.ld 0 rfl rfl) (ed (n.since G).b.len ?_);rw[jk (z:=V.ec) rfl (by decide) (by omega),fq];obtain⟨I,S⟩:=D.ML (E:=eN) (L3:=hZ) (ty:=en) u.blocks.length;have q:List.replicate u.blocks.length ([]:List Nat)=(List.range u.blocks.length).map (hV u 0 0):=by
  refine ZV (by simp) λi c T=>?_;simp[GW]
 rw[q]at I
 refine yY (λk l h'=>∃(i:Nat) (ds:List V),l=[.ptr lu 0,.slice c.next 0 u.blocks.length,.int .i64 i]/\i+k=u.blocks.length/\Sn F h F h'/\
  ei F h' (zO eN hZ en ((List.range u.blocks.length).map (hV u i 0)) (.slice c.next 0 u.blocks.length) ds::eo lu 30 (uC u vv vb vs)::cs)) ?_ (k:=u.blocks.length) ⟨0,_,rfl,by omega,G.trans S,I⟩
 rintro k _ _ _ U ⟨i,ds,⟨⟩,hk,r,s⟩;unfold qp;refine oF (s.ld 1 rfl rfl) (ed (n.since r).b.len ?_);by_cases hi:i<u.blocks.length;rotate_left
 ·refine iC ?_;obtain rfl:i=u.blocks.length:=by omega
  obtain ⟨W,X,Y,r4⟩:=s.MZ 0 rfl;have e:(List.range u.blocks.length).map (hV u u.blocks.length 0)=(List.range u.blocks.length).map (Un.ahead u):=by
   refine VS λb _=>nM u b
  rw[e]at r4;exact H W U _ (r.trans Y) X.tail.tail r4
 refine gw ?_;obtain⟨B,f⟩:∃B,u.blocks[i]? =some B:=⟨_,gQ hi⟩
 have Z:B.next.length<=2:=Em g f
 refine zh (λk l h'=>∃(j:Nat) (ds:List V),l=[.ptr lu 0,.slice c.next 0 u.blocks.length,.int .i64 i,.int .i64 j]/\
  j+k=B.next.length/\Sn F h F h'/\ei F h' (zO eN hZ en ((List.range u.blocks.length).map (hV u i j)) (.slice c.next 0 u.blocks.length) ds::eo lu 30 (uC u vv vb vs)::cs)) ?_ (k:=B.next.length)
  ⟨0,ds,rfl,by omega,r,s⟩
 rintro k1 _ _ _ _ J ⟨j,m,⟨⟩,aa,t,p⟩;unfold qO;obtain⟨l7,o7,bv,bn,bp,_,K,_,_,L,_,M⟩:=(n.since t).mS f;refine oF (p.ld 1 rfl rfl) (ed K (oF M.next (ed L.len ?_)));by_cases hj:j<B.next.length;rotate_left
 ·refine iC ?_;obtain rfl:j=B.next.length:=by omega
  refine fM ⟨k-1,by omega,i+1,m,rfl,by omega,t,?_⟩;have e:(List.range u.blocks.length).map (hV u (i+1) 0)=(List.range u.blocks.length).map (hV u i B.next.length):=VS λb _=>GC f;rw[e];exact p
 refine gw ?_;obtain⟨l8,o8,_,j1,j2⟩:=L.nat (gQ hj) .i64;have x:B.next[j]<u.blocks.length:=g.nx i _ (by unfold next;rw[f];exact AO hj);have a:B.next[j]<((List.range u.blocks.length).map (hV u i j)).length:=by simpa using x
 have A:((List.range u.blocks.length).map (hV u i j))[B.next[j]]'a=hV u i j B.next[j]:=by simp
 obtain ⟨l,d,N,h6,h7,hd,hl,O,e2,e3,e4,e5,e6,P,s7⟩:=p.Nl 0 rfl a (jr:=8) (zF:=3) (y:=i) (w:=[.int .i64 i]) (ro:=false) rfl (by decide) (by decide) (by
  rw[A];have:=nK g (i:=i) (j:=j) (b:=B.next[j]) (by omega) (by omega);omega)
 refine oF (p.ld 1 rfl rfl) (ed K (oF M.next (ed j1 (ed j2 (ed O (ed e2 ?_))))));rw[oI,fq];have C:eR 3 1 8 d (.slice J.next 0 1) (J.new (.cells 3 1 true false (gN [i])))=some (.val N h6):=e3;rw[C,ef];refine ed O ?_;rw[e5,ef];simp only[iO]at P;refine fM ⟨k1-1,by omega,j+1,m.set (B.next[j]) N,rfl,by omega,t.trans s7,?_⟩;have e:((List.range u.blocks.length).map (hV u i j)).set (B.next[j]) (((List.range u.blocks.length).map (hV u i j))[B.next[j]]'a++[i])=(List.range u.blocks.length).map (hV u i (j+1)):=by
  refine ZV (by simp) λb c T=>?_;rw[List.getElem_set];simp only[List.getElem_map,List.getElem_range];rw[Gn f (gQ hj)];by_cases eb:B.next[j]=b
  ·subst eb;simp
  ·rw[if_neg eb,if_neg λh=>eb h.symm]
 rw[<-e];exact P
end
open Go.Proofs.YtpnddokajmjpbaaDoor.Un Go.Proofs.YtpnddokajmjpbaaDoor.Dm
section
variable{F F':Nat->Prop}{h h':Hp}{cs:List Pc}{Q:fx}{u:U}{vv vb vs nv:V}{Tz:List (List Nat)}
structure Nxs (n:Nat) (nx:Nat->List Nat) (Tz:List (List Nat)):Prop where
 n0:0<n
 n3:n<=300
 len:Tz.length=n
 at_:∀b:Nat,b<n->Tz[b]? =some (nx b)
 two:∀b:Nat,b<n->(nx b).length<=2
 lt:∀b:Nat,b<n->∀t∈nx b,t<n
theorem JF {n:Nat}{nx:Nat->List Nat}(w:Nxs n nx Tz)(Cg:Int)(H0:ei F h cs)(hs:ik (eL eN) F h Tz nv)
  (H:∀h' v seen,Sn F h F h'->ei F h' (eQ eB jf seen v::cs)->seen.length=n->(∀b:Nat,seen[b]? =some true↔Qe nx Cg b)->Q v h') :
  cP CS jn [nv,.int .i64 0,.int .i64 Cg] h Q:=by
 refine Aj rfl rfl ?_;unfold rP;have n0:=w.n0;have n3:=w.n3;refine ed hs.len ?_;rw[w.len,jk (z:=V.bool false) rfl (by decide) (by omega),fq];obtain⟨X,Y⟩:=H0.make (E:=eB) (ty:=jf) (y:=false) (u:=V.bool false) n rfl rfl;generalize h.new (.cells jf 1 true false (List.replicate n (V.bool false)))=h1 at*;generalize h.next=r at*;by_cases hb:Cg=0
 ·refine gO (ig hb.symm (H h1 _ _ Y X Nt λb=>⟨λh=>?_,λh=>absurd h (SM hb)⟩));rw[VX]at h;split at h <;> cases h
 refine gO (gG (λh=>hb h.symm) ?_);obtain⟨l2,o2,i,e1,e2,_,I,s2⟩:=X.G7 0 rfl (k:=0) (y:=true) (u:=V.bool true) (by rw[Nt];exact n0) rfl rfl rfl;refine ed e1 ?_;rw[e2,ef];simp only[iO]at I;have ep:iZ 3 1 1 (V.int .i64 0) [(0,V.int .i64 0)]=some (.cells 3 1 true false (gN [0]),λl=> .slice l 0 1):=rfl;rw[ep,fq]
 have J:ei F (i.new (.cells 3 1 true false (gN [0]))) (VJ en [0] (.slice i.next 0 1)::eQ eB jf ((List.replicate n false).set 0 true) (.slice r 0 n)::cs)/\Sn F i F (i.new (.cells 3 1 true false (gN [0]))):=
  I.new (p:=VJ en [0] (.slice i.next 0 1)) _ (.inr ⟨i.next,[],[],rfl,IS _,I.fresh,fg _ _,rfl,rfl⟩) λl e=>e.symm
 obtain⟨J,s3⟩:=J;generalize i.new (.cells 3 1 true false (gN [0]))=h3 at*;generalize i.next=lq at*;have K:=(Y.trans s2).trans s3
 refine xR (λk l h'=>∃(seen:List Bool) (todo:List Nat) (s:V),l=[nv,.int .i64 Cg,.slice r 0 n,s]/\k=todo.length+seen.count false/\Sn F h F h'/\Wo n nx Cg none seen todo/\ei F h' (VJ en todo s::eQ eB jf seen (.slice r 0 n)::cs)) ?_ (k:=[0].length+((List.replicate n false).set 0 true).count false)
  ⟨_,_,_,rfl,rfl,K,Wo.start n0 hb,J⟩
 rintro k _ _ _ s h4 ⟨seen,todo,_,⟨⟩,hk,L,W,B⟩;unfold oX;refine ed (B.zbt 0 rfl) ?_
 cases todo with
 | nil=>
   refine AM (gG (by simp) ?_)
   exact H h4 _ seen L B.tail W.len W.iff
 | cons b todo=>
   refine AM (ig (by simp <;> omega) ?_);obtain⟨la,oa,M,x1,x2,x3,N⟩:=B.zbd 0 rfl;refine ed x1 (ed x2 (ed x3 ?_));simp only[iO]at N;obtain⟨Z,A6⟩:=W.pop;have o:b<n:=by
     have:=(iB.1 (W.work b (by simp))).1;rw[W.len]at this;exact this
   have aa:=w.two b o
   refine xP (λC l h'=>∃(j:Nat) (a:List Bool) (d:List Nat) (s:V),l=[nv,.int .i64 Cg,.slice r 0 n,s,.int .i64 (b:Nat),.int .i64 (j:Nat)]/\j+C=(nx b).length/\d.length+a.count false+1<=k/\Sn F h F h'/\Wo n nx Cg (some (b,j)) a d/\ei F h' (VJ en d s::eQ eB jf a (.slice r 0 n)::cs)) ?_ (k:=(nx b).length)
     ⟨0,seen,todo,M,rfl,by omega,by rw[hk,CM];omega,L,Z,N⟩
   clear N B Z W L;rintro C _ _ _ q _ _ h6 ⟨j,f,g,_,⟨⟩,ab,O,D,x,G⟩;unfold oY;obtain⟨lb,ob,wb,_,y1,y2,wr⟩:=(hs.since D).list (w.at_ b o) .i64;refine ed y1 (ed y2 (ed wr.len ?_));by_cases hj:j<(nx b).length
   ·refine gw ?_
    have ht:=gQ hj;have ac:=w.lt b o _ (AO hj);generalize (nx b)[j]=t at*;obtain⟨lc,oc,_,z1,z2⟩:=wr.nat ht .i64;refine ed y1 (ed y2 (ed z1 (ed z2 (ed (tX ..) ?_))));have ae:=x.len;obtain⟨c,hc⟩:∃c,f[t]? =some c:=⟨_,gQ (by omega)⟩
    obtain ⟨ld,od,q1,q2⟩:=G.ID 1 rfl hc .i64;rw[show jK (.bool ((t:Int) != Cg)) (oB (some (V.slice r 0 n)) λP=>oB (some (V.int .i64 (t:Nat))) λR=>oB (gD 1 P R) λS=>oB (ev S h6) λT=>sr .not T)=some (.bool (((t:Int) != Cg)&&!c)) from by
      simp only[fh,q1,q2];show jK (.bool _) (some (.bool (!c)))=_;rw[ji]]
    rw[gI];refine jH ?_;have ag:=x.less;by_cases cnd:(t:Int)≠Cg/\c=false
    ·refine ig (by rw[tN,Pk,cnd.2];exact⟨cnd.1,rfl⟩) ?_
     rw[cnd.2]at hc;obtain⟨le,oe,h7,e7,e8,_,H7,s7⟩:=G.G7 1 rfl (k:=t) (y:=true) (u:=V.bool true) (by omega) rfl rfl rfl;refine ed e7 ?_;rw[e8,ef];simp only[iO,kZ]at H7;rw[oI,fq];obtain⟨A,h8,e9,_,H8,s8⟩:=H7.Z8 0 rfl (jr:=8) (zF:=3) (y:=t) (ro:=false) (by decide) (by omega);have U:eR 3 1 8 q (.slice h7.next 0 1) (h7.new (.cells 3 1 true false (gN [t])))=some (.val A h8):=e9;rw[U,ef];simp only[iO]at H8;refine og ?_;unfold kX;refine j7 (m:=1) (by omega) (by omega) ⟨C-1,by omega,j+1,_,_,A,rfl,by omega,?_,(D.trans s7).trans s8,x.push ht A6 cnd.1 hc,H8⟩;have:=Un.count_set hc;rw[zL,ZO];omega
    ·refine gG (λh=>cnd ?_) ?_
     ·rw[tN,Pk]at h
      exact⟨h.1,by simpa using h.2⟩
     refine og ?_;unfold kX;refine j7 (m:=1) (by omega) (by omega) ⟨C-1,by omega,j+1,_,_,q,rfl,by omega,O,D,x.skip ht ?_,G⟩;by_cases e:(t:Int)=Cg
     ·exact .inl e
     ·right
      rw[hc]
      cases c with
      |true=>rfl
      |false=>exact absurd ⟨e,rfl⟩ cnd
   ·refine iC ?_
    obtain rfl:j=(nx b).length:=by omega
    exact⟨g.length+f.count false,by omega,f,g,q,rfl,rfl,D,x.next,G⟩
theorem Vf:(WD).rel F h .ec [.ec]:=⟨rfl,rfl⟩
def Yw (n:Nat)(nx:Nat->List Nat)(Ir:List (List Bool)):Prop:=Ir.length=n/\∀a:Nat,a<n->∃row,Ir[a]? =some row/\row.length=n/\∀b:Nat,b<n->(row[b]? =some true↔mg nx a b)
theorem QP {n:Nat}{nx:Nat->List Nat}(w:Nxs n nx Tz)(H0:ei F h cs)(hs:ik (eL eN) F h Tz nv)
  (H:∀F' h' v Ir,Sn F h F' h'->ei F' h' cs->ik (eL eB) F' h' Ir v->Yw n nx Ir->Q v h') :
  cP CS jW [nv,.int .i64 0] h Q:=by
 refine Cu rfl rfl ?_;unfold vy;have n0:=w.n0;have n3:=w.n3;refine ed hs.len ?_;rw[w.len,jk (z:=V.ec) rfl (by decide) (by omega),fq];obtain⟨H1,s1⟩:=H0.make (E:=WD) (ty:=I1) (y:= .ec) (u:= .ec) n Vf rfl;generalize h.new (.cells I1 1 true false (List.replicate n V.ec))=h1 at*;generalize h.next=x at*
 refine AA (λk l h'=>∃(F':Nat->Prop) (a:Nat) (ds:List V) (Ir:List (List Bool)),l=[nv,.int .i64 0,.slice x 0 n,.int .i64 a]/\a+k=n/\Sn F h F' h'/\ei F' h' (eQ WD I1 ds (.slice x 0 n)::cs)/\ds.length=n/\Ir.length=n/\
   ∀c:Nat,c<a->∃row d,Ir[c]? =some row/\ds[c]? =some d/\ik eB F' h' row d/\row.length=n/\∀b:Nat,b<n->(row[b]? =some true↔mg nx c b)) ?_ (k:=n)
  ⟨F,0,_,List.replicate n [],rfl,by omega,s1,H1,Nt,Nt,λc hc=>by omega⟩
 rintro k _ _ _ _ P ⟨A,a,ds,Ir,⟨⟩,hk,B,R,G,o,f⟩;unfold rY;refine ed (hs.since B).len ?_;rw[w.len];by_cases ha:a<n;rotate_left
 ·refine iC ?_;obtain rfl:a=n:=by omega
  obtain⟨C,p,r3⟩:=R.kE 0 rfl;simp only[iO]at C;refine H _ P _ Ir (B.trans p) C.tail (r3.Xe (E':=eL eB) rfl (λ_ h=>h) (by omega) λc d row ws hd S hw=>?_) ⟨o,λc hc=>?_⟩
  ·have j:=(iB.1 S).1;obtain⟨T,d',g,m,I,_⟩:=f c (by omega);rw[hd]at m;rw[S]at g;cases g;cases m;obtain⟨rfl,_⟩:=hw;exact⟨d,rfl,I.mono p.mono⟩
  ·obtain⟨row,d,g,_,_,J⟩:=f c hc;exact⟨row,g,J⟩
 refine gw ?_;refine JF w (a:Nat) R (hs.since B) λU sv seen p C aa K=>?_;have q:=B.trans p;refine ed (hs.since q).len ?_;rw[w.len,jk (z:=V.bool false) rfl (by decide) (by omega),fq];obtain⟨H4,W⟩:=C.make (E:=eB) (ty:=jf) (y:=false) (u:=V.bool false) n rfl rfl;generalize U.new (.cells jf 1 true false (List.replicate n (V.bool false)))=h4 at*;generalize U.next=lr at*;obtain⟨l5,o5,h5,g,m,_,X,Y⟩:=H4.G7 2 rfl (k:=a) (y:=V.slice lr 0 n) (u:=V.slice lr 0 n) (by omega) rfl rfl ⟨rfl,rfl⟩;refine ed g ?_;rw[m,ef];simp only[iO,kZ]at X;have L:=(q.trans W).trans Y;have M:=(p.trans W).trans Y
 refine Am (λN l h'=>∃(b:Nat) (cur:List Bool),l=[nv,.int .i64 0,.slice x 0 n,.int .i64 a,sv,.int .i64 b]/\b+N=n/\Sn F h A h'/\Sn A P A h'/\cur.length=n/\(∀c:Nat,c<b->(cur[c]? =some true↔mg nx a c))/\
   ei A h' (eQ eB jf cur (.slice lr 0 n)::eQ eB jf seen sv::eQ WD I1 (ds.set a (.slice lr 0 n)) (.slice x 0 n)::cs)) ?_ (k:=n)
  ⟨0,_,rfl,by omega,L,M,Nt,λc hc=>by omega,X⟩
 rintro N _ _ _ _ _ _ h6 ⟨b,cur,⟨⟩,ab,O,r,j,i,D⟩;unfold rR;refine ed (hs.since O).len ?_;rw[w.len];by_cases hb:b<n
 ·refine gw ?_;obtain⟨lx,ox,dx,x1,x2,Z⟩:=D.Ts 2 rfl (k:=a) (by rw[Nu];omega) .i64 rfl;have hg:(ds.set a (V.slice lr 0 n))[a]'(by rw[Nu];omega)=V.slice lr 0 n:=List.getElem_set_self _;rw[hg]at Z;obtain rfl:dx=V.slice lr 0 n:=by have:=Z.1;simpa using this
  obtain⟨c,hc⟩:∃c,seen[b]? =some c:=⟨_,gQ (by omega)⟩
  obtain⟨ly,oy,y1,y2⟩:=D.ID 1 rfl hc .i64;refine ed x1 (ed x2 (ed y1 (ed y2 (Wl ?_))));obtain⟨lz,oz,h7,z1,z2,zn,s,t⟩:=D.G7 0 rfl (k:=b) (y:=!c) (u:=V.bool (!c)) (by omega) rfl rfl rfl;refine ed z1 ?_;rw[z2,ef];simp only[iO]at s;refine⟨zn,fM ⟨N-1,by omega,b+1,_,rfl,by omega,O.trans t,r.trans t,by rw[Nu];exact j,λe he=>?_,s⟩⟩;by_cases eb:e=b
  ·subst eb;rw[Ct (by omega),<-SL,<-K e,hc];cases c <;> simp
  ·rw[AR λh=>eb h.symm];exact i e (by omega)
 ·refine iC ?_;obtain rfl:b=n:=by omega
  obtain⟨s,t,r7⟩:=D.kE 0 rfl;simp only[iO]at s;refine fM ⟨k-1,by omega,_,a+1,_,Ir.set a cur,rfl,by omega,O.trans t,s.tail.tail,by rw[Nu];exact G,by rw[Nu];exact o,λc hc=>?_⟩;by_cases e:c=a
  ·subst e;exact⟨cur,_,Ct (by omega),Ct (by omega),r7,j,i⟩
  ·rw[AR λh=>e h.symm,AR λh=>e h.symm];obtain⟨row,d,g,m,I,J⟩:=f c (by omega);exact⟨row,d,g,m,(I.since r).since t,J⟩
structure YJ (u:U) (mS EL:List Nat) (Ir:List (List Bool)):Prop where
 at_:∀(v b k:Nat),At u v b k->mS[v]? =some b/\EL[v]? =some k
 Pe:Yw u.blocks.length (next u) Ir
def Rz (u:U)(vv vb vs wb wp wd:V):List V:=[.int .i64 u.func,.int .i64 u.pc,vv,vb,vs,wb,wp,wd]
variable{mS EL:List Nat}{Ir:List (List Bool)}{wb wp wd:V}
theorem Ei (o:YJ u mS EL Ir)(G:ei F h cs)(i:zf F h u vv vb vs)(hb:ik eN F h mS wb)(z:ik eN F h EL wp)(A:ik (eL eB) F h Ir wd){a b k c j:Nat}(e:At u a c j)(l:b<u.blocks.length)(hs:c=b/\j<k\/c≠b/\mg (next u) c b)
  (H:∀h',Sn F h F h'->ei F h' cs->Q (.bool true) h'):cP CS gS [.agg (Rz u vv vb vs wb wp wd),.int .i64 a,.int .i64 b,.int .i64 k] h Q:=by
 refine xg rfl rfl ?_;unfold oh;obtain⟨I,J⟩:=o.at_ a c j e;refine mf G (by simp only[Rz,eJ,i.v.one,i.b.one,i.s.one,hb.one,z.one,A.one];rfl) λd f g=>?_;generalize h.next=lx at*;obtain⟨l1,Z,_,C,D⟩:=(hb.since g).nat I .i64;obtain⟨l2,o2,_,K,L⟩:=(z.since g).nat J .i64;have E:ev (.ptr lx (0+5)) d=some wb:=f.ld 0 rfl rfl;have M:ev (.ptr lx (0+6)) d=some wp:=f.ld 0 rfl rfl;have N:ev (.ptr lx (0+7)) d=some wd:=f.ld 0 rfl rfl;have m:c<u.blocks.length:=by
  obtain⟨B,O,_⟩:=e;exact(iB.1 O).1
 obtain ⟨row,r1,r2,r3⟩:=o.Pe.2 c m;obtain⟨l3,o3,d3,_,P,R,S⟩:=(A.since g).list r1 .i64;have hq:=H d g f.tail;refine oF E (ed C (ed D (ed (iA ..) ?_)));rw[show jK (.bool ((c:Int) == (b:Int))) (oB (fH 6 (V.ptr lx 0)) λn=>oB (ev n d) λp=>oB (some (V.int .i64 a)) λq=>oB (gD 1 p q) λr=>oB (ev r d) λt=>oB (some (V.int .i64 k)) λw=>er .lss 3 t w)=some (.bool (((c:Int) == (b:Int))&&decide ((j:Int)<k))) from by
  simp only[fh,ez,M,K,L,om,ji]]
 rw[gI];rcases hs with⟨rfl,T⟩|⟨T,U⟩
 ·rw[show(((c:Int) == (c:Int))&&decide ((j:Int)<k))=true by rw[tN];exact⟨by simp,I9 (by omega)⟩];exact ed rfl hq
 ·have x:=(r3 b l).2 U;obtain⟨l4,o4,_,W,X⟩:=S.bool x .i64;rw[show(((c:Int) == (b:Int))&&decide ((j:Int)<k))=false by rw[Bool.and_eq_false_iff];left;rw[Tw];omega];have y:((c:Int) != (b:Int))=true:=by rw[Pk];omega
  refine ed (a:= .bool true) ?_ hq;show(oB (fH 5 (V.ptr lx 0)) λY=>_)=_;simp only[fh,ez,E,N,C,D,P,R,W,X,tX,y];rfl
theorem Mb (o:YJ u mS EL Ir)(g:Good u)(G:ei F h cs)(e:zf F h u vv vb vs)(hb:ik eN F h mS wb)(B:ik eN F h EL wp)(C:ik (eL eB) F h Ir wd){s b k:Nat}{fs:List Fm}(a:u.eh[s]? =some fs)(p:b<u.blocks.length)(hs:∀w∈ie fs,∃c j,At u w c j/\(c=b/\j<k\/c≠b/\mg (next u) c b))
  (H:∀F' h',Sn F h F' h'->ei F' h' cs->Q (.bool true) h'):cP CS iH [.agg (Rz u vv vb vs wb wp wd),.int .i64 s,.int .i64 b,.int .i64 k] h Q:=by
 refine wW rfl rfl ?_;unfold oi;refine mf G (by simp only[Rz,eJ,e.v.one,e.b.one,e.s.one,hb.one,B.one,C.one];rfl) λW D E=>?_;generalize h.next=lx at*;have I:=e.since E;obtain⟨l1,X,f,_,J,K,_,L⟩:=I.st a;refine ed (ez _ _ _) (oF (D.ld 0 rfl rfl) (ed J (ed K ?_)));refine Mk D L (BG g s fs a) λm M N O P r2=>?_;have R:=B2 (fs:=fs) (BG g s fs a).2;have:=(BG g s fs a).1;have q:=E.trans O
 refine uS (λr l h'=>∃i:Nat,l=[.int .i64 b,.int .i64 k,.ptr lx 0,N,.int .i64 (i:Nat)]/\i+r=(ie fs).length/\Sn F h m h'/\Sn m M m h'/\ei m h' (eo lx _ (Rz u vv vb vs wb wp wd)::cs)) ?_ (k:=(ie fs).length)
  ⟨0,rfl,by omega,q,Sn.refl _ _,P⟩
 rintro r _ _ _ _ _ S ⟨i,⟨⟩,Y,d,n,t⟩;unfold mN;have r3:=r2.since n;refine ed r3.len ?_;by_cases hi:i<(ie fs).length
 ·refine gw ?_;have hx:=gQ hi;obtain⟨c,j,y,z⟩:=hs _ (AO hi);generalize (ie fs)[i]=x at*;obtain⟨l4,Z,_,T,U⟩:=r3.nat hx .i64;refine ed (t.wH 0 rfl rfl) (ed T (ed U ?_));refine Ei o t (e.since d) (hb.since d) (B.since d) (C.since d) y p z λh4 A V=>?_;refine⟨A.next,pj (ig rfl ?_)⟩;exact fM ⟨r-1,by omega,i+1,rfl,by omega,d.trans A,n.trans A,V⟩
 ·exact iC (H m S d t.tail)
end
