/- Parts. -/
import Derived.Test.YtpfjdlicdljhaaaDoorM28
import Derived.Test.YtpfjdlicdljhaaaDoorM36
set_option maxHeartbeats 4000000
namespace Go.Proofs.YtpfjdlicdljhaaaDoor.Hx
open Un Dm
def QuR(ty:Nat)(F:Nat->Prop)(h:Hp)(xs:List Nat)(v:V):Prop:=(v = .ee/\xs=[])\/∃t pre post,v = .slice t pre.length xs.length/\t<h.next/\¬F t/\h.get t=some (.cells ty 1 true false (pre++gJ xs++post))/\fW pre=true/\fW post=true
def Xd(ty:Nat)(xs:List Nat)(v:V):Pc where
 kX:=Loc v
 ok F h:=QuR ty F h xs v
 L0:=λ{F h} a l b=>by
  rcases a with⟨rfl,_⟩|⟨t,pre,post,rfl,c,d,_⟩
  ·exact b.elim
  simp_all
 eR:=λ{F h h'} a _ b f=>by
  rcases a with a|⟨t,pre,post,rfl,c,d,e,g⟩
  ·exact .inl a
  ·exact .inr ⟨t,pre,post,rfl,Cc c f,d,by simp_all,g⟩
 mono:=λ{F F' h} a _ b=>by
  rcases a with a|⟨t,pre,post,rfl,c,d,e⟩
  ·exact .inl a
  ·exact .inr ⟨t,pre,post,rfl,c,b t rfl,e⟩
def X9:pG V where
 sz:=1
 rel _ _ n cs:=cs=[n]/\n.one=true
 len h:=by simp_all
 one h:=by simp_all
 eR _ h:=h
 mono _ h:=h
section
variable{F F':Nat->Prop}{h h':Hp}{cs:List Pc}{Q:fo}{u:U}{vv vb vs:V}
theorem OW(xs:List Nat):(gJ xs).length=xs.length:=BW ..
theorem AM:∀xs:List Nat,fW (gJ xs)=true
 |[]=>rfl
 | x::xs=>by
   show fW (V.I (x:Nat)::gJ xs)=true;rw[ev,AM xs];rfl
theorem Qc(xs ys:List Nat):gJ (xs++ys)=gJ xs++gJ ys:=Qi ..
theorem ei.zcx(H:ei F h cs)(i:Nat){ty:Nat}{xs:List Nat}{v:V}(hi:cs[i]? =some (Xd ty xs v)):fy v=some (.I xs.length):=by
 rcases H.ok i _ hi with⟨rfl,rfl⟩|⟨t,pre,post,rfl,_⟩ <;> rfl
theorem ei.zcv(H:ei F h cs)(i:Nat){ty x:Nat}{xs:List Nat}{v:V}(hi:cs[i]? =some (Xd ty (x::xs) v)) :
  ∃l o b,gI 1 v (.I 0)=some (.ptr l o)/\ey (.ptr l o) h=some (.I x)/\iK 1 v (some (.I 1)) none h=some b/\ei F h (cs.set i (Xd ty xs b)):=by
 rcases H.ok i _ hi with⟨_,a⟩|⟨t,pre,post,rfl,a,d,c,e,f⟩
 ·cases a
 ·refine⟨t,pre.length+0*1,.slice t (pre.length+1*1) ((x::xs).length-1),by rfl,kr c ?_,?_,H.swap hi (.inr ⟨t,pre++[V.I x],post,?_,a,d,?_,?_,f⟩) λ_ h=>h⟩
  ·rw[Jx,Nat.zero_mul,XC,WK (iZ _),Nat.sub_self];rfl
  ·unfold iK jv;simp only[c,fe,DN];rw[show hbound 0 (some (V.I 1))=some 1 from rfl,fe,lL _ (Tv _),lL _ (by rfl),lL _ (by simp_all)];rfl
  ·simp
  ·grind[gJ]
  ·rw[mE,e];rfl
theorem ei.zbo(H:ei F h cs)(i:Nat){ty kE EI y:Nat}{ro:Bool}{xs:List Nat}{v:V}(hi:cs[i]? =some (Xd ty xs v))(q:kE<=1000)(r:xs.length<1000000) :
  ∃c h',eQ ty 1 kE v (.slice h.next 0 1) (h.new (.cells EI 1 true ro (gJ [y])))=some (.val c h')/\h.next+1<=h'.next/\ei F h' (cs.set i (Xd ty (xs++[y]) c))/\Sn F h F h':=by
 obtain ⟨e,s⟩:=H.grow (kM.new h (.cells EI 1 true ro (gJ [y])));have g:kG (h.new (.cells EI 1 true ro (gJ [y]))) 1 (.slice h.next 0 1)=some (1,gJ [y]):=mJ (k:=0) rfl;have J:(h.new (.cells EI 1 true ro (gJ [y]))).next=h.next+1:=rfl;have hq:=e.ok i _ hi;generalize h.new (.cells EI 1 true ro (gJ [y]))=b at*;have u:(xs.length+1)*kE<=1000000*1000:=Nat.mul_le_mul (by omega) q;have j:∃c h',eQ ty 1 kE v (.slice h.next 0 1) b=some (.val c h')/\QuR ty F h' (xs++[y]) c/\kM (Loc v) b h'/\∀t,Loc c t->Loc v t\/b.next<=t:=by
  rcases hq with⟨rfl,rfl⟩|⟨t,pre,post,rfl,f,w,n,x,K⟩
  ·refine⟨.slice b.next 0 1,b.new (.cells ty 1 true false (gJ [y])),?_,.inr ⟨b.next,[],[],rfl,MC _,λl=>Ym _ (e.fl _ l),fg _ _,rfl,rfl⟩,kM.new _ _,by simp_all⟩;unfold eQ;simp only[g,fe];show bB (fW (gJ [y])) _=_;rw[lL _ (AM _),lL _ (show Nat.ble (Nat.mul 1 kE) 70368744177664=true from by grind[Ro]),lL _ (by rfl)]
  ·have e0:(pre++gJ xs++post).length=pre.length+xs.length+post.length:=by rw[I9,I9,OW]
   cases post with
   | nil =>
     refine⟨.slice b.next 0 (xs.length+1),(b.put t (.cells ty 1 false false (pre++gJ xs++[]))).new (.cells ty 1 true false (gJ xs++gJ [y])),?_,.inr ⟨b.next,[],[],by simp,MC _,λl=>Ym _ (e.fl _ l),?_,rfl,rfl⟩,(kM.put (S:=Loc (.slice t pre.length xs.length)) _ rfl f).trans (kM.new _ _),by simp_all⟩
     ·unfold eQ jv
      have d:sub (pre++gJ xs++[]) pre.length (Nat.mul xs.length 1)=some (gJ xs):=by
        show sub (pre++gJ xs++[]) pre.length (xs.length*1)=_;rw[BY (by omega),GD,List.drop_left,Xj (by simp_all)]
      have a:Nat.ble (Nat.add pre.length (Nat.mul (Nat.add xs.length 1) 1)) (pre++gJ xs++[]).length=false:=by
        rw[wBh];intro z;have:=Jd z;rw[e0]at this;have m:Nat.add pre.length (Nat.mul (Nat.add xs.length 1) 1)=pre.length+(xs.length+1)*1:=rfl;rw[m]at this;simp at this;omega
      simp only[g,fe];show bB (fW (gJ [y])) _=_;rw[lL _ (AM _)];simp only[n,fe,d,AM];rw[lL _ (by rfl),lL _ (by rfl),lL _ (Tv _),a];simp only[rF];rw[lL _ (show Nat.ble (Nat.mul (Nat.add xs.length 1) kE) 70368744177664=true from by grind[Ro]),lL _ (show Nat.ble (Nat.add xs.length 1) 70368744177664=true from by grind[Ro])]
     ·simp only[GD,Qk,Qc]
      exact fg (b.put t _) _
   | cons p post=>
     refine⟨.slice t pre.length (xs.length+1),b.put t (.cells ty 1 true false (pre++gJ (xs++[y])++post)),?_,.inr ⟨t,pre,post,by simp,f,w,fS _ f,x,?_⟩,kM.put _ rfl f,by simp_all⟩
     ·unfold eQ jv
      have a:Nat.ble (Nat.add pre.length (Nat.mul (Nat.add xs.length 1) 1)) (pre++gJ xs++p::post).length=true:=by
        refine Ro ?_;show pre.length+(xs.length+1)*1<=_;rw[e0,M0];omega
      have A:oC (Nat.add pre.length (Nat.mul xs.length 1)) (pre++gJ xs++p::post) (gJ [y])=some (pre++gJ (xs++[y])++post):=by
        have B:(gJ [y]).length=1:=rfl;have m:(pre++gJ xs).length=pre.length+xs.length:=by rw[I9,OW]
        rw[show Nat.add pre.length (Nat.mul xs.length 1)=pre.length+xs.length by simp_all,ym (by simp_all),B];congr 1;rw[<-m,List.take_left,Qc,<-Yw,List.drop_left];simp
      simp only[g,fe];show bB (fW (gJ [y])) _=_;rw[lL _ (AM _)];simp only[n,fe];rw[lL _ (by rfl),lL _ (by rfl),lL _ (Tv _),a]
      simp_all
     simp_all
 obtain⟨c,h',C,D,o,E⟩:=j;obtain⟨G,I⟩:=e.AS (p:=Xd ty (xs++[y]) c) hi o D E;exact⟨c,h',C,by have:=o.next;omega,G,s.trans I⟩
theorem I8{a n:Nat}(b:a<n)(H:Q (.bool true) h):cP CS gg [.I a,.I n] h Q:=by
 refine EX rfl rfl ?_;unfold xJ;refine ed (po ..) ?_;simp only[fe,mj,iD,gW];rw[PY (show(0:Int)<=(a:Nat) by omega),PY (show(a:Int)<(n:Nat) by omega)];exact H
theorem QO{op:Nat}(H:Q (.bool (Hv op)) h):cP CS iV [.I op] h Q:=by
 refine Co rfl rfl ?_;unfold tY;refine ed (mj ..) ?_;simp only[fe,ik,pe,gW];have e:(decide ((op:Int)<19) ||((op:Int) == 21))=Hv op:=by
  unfold Hv;rw[show((op:Int) == 21)=(op == 21) from XZ _ 21];congr 1;rw[decide_eq_decide];omega
 rw[e];exact H
theorem iA.zbn{fs:List Fm}{f:V}(a:iA eF F h fs f){i:Nat}{x:Fm}(d:fs[i]? =some x) :
  ∃l o a b,F l/\gI 4 f (.I i)=some (.ptr l o)/\ey (.ptr l (o+2)) h=some a/\ey (.ptr l (o+3)) h=some b/\iA eN F h x.locals a/\iA eN F h x.stack b:=by
 obtain⟨hi,rfl⟩:=jq.1 d;obtain⟨l,o,w,e,g,m,⟨a,b,rfl,j,k⟩,c⟩:=a.ix hi .i64;exact⟨l,o,a,b,e,g,c 2 a rfl,c 3 b rfl,j,k⟩
theorem B8:∀{fs:List Fm},(∀f∈fs,f.locals.length<=40/\f.stack.length<=60)->(gY fs).length<=fs.length*100
 |[],_=>by simp[gY]
 | f::fs,hf=>by
   have a:=B8 (fs:=fs) (by simp_all)
   grind[Xe,gY,I9,M0]
theorem MD{fs:List Fm}{f:V}(B:ei F h cs)(hs:iA eF F h fs f)(i:fs.length<=30/\∀f∈fs,f.locals.length<=40/\f.stack.length<=60)
  (H:∀F' h' v,Sn F h F' h'->ei F' h' cs->iA eN F' h' (gY fs) v->Q v h'):cP CS js [.agg [f]] h Q:=by
 refine AW rfl rfl ?_;unfold tn;refine nQ B (by simp only[ev,hs.one];rfl) λt m u=>?_;generalize h.next=n at*;have m:ei F t (eJ eN en [] .ee::er n 50 [f]::cs):=m.add .nil λ_ h=>h
 refine yB (λk l h'=>∃(j:Nat) (v:V),l=[.ptr n 0,v,.I j]/\j+k=fs.length/\Sn F t F h'/\ei F h' (eJ eN en (gY (fs.take j)) v::er n 50 [f]::cs)) ?_ (k:=fs.length)
  ⟨0,_,rfl,by omega,Sn.refl _ _,m⟩
 rintro k _ v _ C ⟨j,_,⟨⟩,hk,p,b⟩;unfold o0;have e:=(hs.since u).since p;refine ed (by rfl) (ed (b.ld 1 rfl rfl) (ed e.len ?_));by_cases hj:j<fs.length;rotate_left
 ·refine ir ?_;rw[Xj (by omega)]at b;obtain⟨d,g,r3⟩:=b.jQ 0 rfl;simp only[jx]at d;exact H _ _ _ ((u.trans p).trans g) d.tail.tail r3
 refine gv ?_;obtain⟨l,o,a,c,D,w,E,x,G,I⟩:=e.zbn (ig hj);obtain⟨R,S⟩:=i.2 _ (BG hj);have hlen:=B8 (fs:=fs.take j) λf J=>i.2 f (wBZ J);rw[KN]at hlen;have q:(gY (fs.take j)).length<=3000:=by
  have:=i.1;have:min j fs.length<=30:=by omega
  omega
 refine ed (by rfl) (ed (b.ld 1 rfl rfl) (ed w (ed (by rfl) (ed E (ed (by rfl) (ed (b.ld 1 rfl rfl) (ed w (ed (by rfl) (ed x ?_)))))))));obtain⟨y,z,K,n3,d,g⟩:=b.L5 0 rfl (kE:=8) G (by decide) (by decide) (by omega);have r:eQ 3 1 8 v a C=some (.val y z):=K;rw[r,ej];simp only[jx]at d;refine⟨n3,j5 x (g.eR _ D),d.ld 1 rfl rfl,?_⟩;obtain⟨A,L,M,N,O,P⟩:=d.L5 0 rfl (kE:=8) (I.since g) (by decide) (by decide) (by grind);have s:eQ 3 1 8 y c z=some (.val A L):=M;rw[s,ej];simp only[jx]at O;refine⟨N,fM ⟨k-1,by omega,j+1,A,rfl,by omega,(p.trans g).trans P,?_⟩⟩
 grind[gY,Qh,Jx]
theorem YQ{xs:List Nat}{a b:V}(c:iA eN F h xs a)(d:iA eN F h xs b)(m:xs.length<1000000000)(H:Q (.bool true) h):cP CS lX [a,b] h Q:=by
 refine CJ rfl rfl ?_;unfold vB;refine ed c.len (ed d.len (Cw (gw rfl ?_)));refine Aj (λk l h'=>∃i:Nat,l=[a,b,.I (i:Nat)]/\i+k=xs.length/\h' = h) ?_ (k:=xs.length) (by simp_all);rintro k _ _ _ h' ⟨i,⟨⟩,hk,rfl⟩;unfold rE;refine ed c.len ?_;by_cases hi:i<xs.length
 ·refine gv ?_;obtain⟨l,o,_,e,f⟩:=c.nat (ig hi) .i64;obtain⟨n,p,_,g,j⟩:=d.nat (ig hi) .i64;refine ed e (ed f (ed g (ed j (Cw (gw rfl ?_)))));exact fM ⟨k-1,by omega,i+1,rfl,by omega,rfl⟩
 ·exact ir H
theorem Vt(g:Good u)(N:ei F h cs)(m:CL F h u vv vb vs)(H:∀F' h' v,Sn F h F' h'->ei F' h' cs->iA (eL eN) F' h' ((List.range u.blocks.length).map (Un.ahead u)) v->Q v h') :
  cP CS lI [.agg (uC u vv vb vs)] h Q:=by
 refine Cd rfl rfl ?_;unfold uD;have nb:=g.nb;refine nQ N m.one λc t x=>?_;generalize h.next=lu at*;refine oF (t.ld 0 rfl rfl) (ed (m.since x).b.len ?_);rw[jY (z:=V.ee) rfl (by decide) (by omega),fw];obtain⟨A,O⟩:=t.Ss (E:=eN) (PZ:=iy) (ty:=en) u.blocks.length;have n:List.replicate u.blocks.length ([]:List Nat)=(List.range u.blocks.length).map (hV u 0 0):=by
  refine List.ext_getElem (by simp) λi c P=>?_;simp[G6]
 rw[n]at A
 refine zA (λk l h'=>∃(i:Nat) (ds:List V),l=[.ptr lu 0,.slice c.next 0 u.blocks.length,.I i]/\i+k=u.blocks.length/\Sn F h F h'/\
  ei F h' (Ed eN iy en ((List.range u.blocks.length).map (hV u i 0)) (.slice c.next 0 u.blocks.length) ds::er lu 29 (uC u vv vb vs)::cs)) ?_ (k:=u.blocks.length) ⟨0,_,rfl,by omega,x.trans O,A⟩
 rintro k _ _ _ R ⟨i,ds,⟨⟩,hk,C,D⟩;unfold qc;refine oF (D.ld 1 rfl rfl) (ed (m.since C).b.len ?_);by_cases hi:i<u.blocks.length;rotate_left
 ·refine ir ?_;obtain rfl:i=u.blocks.length:=by omega
  obtain ⟨S,T,U,G⟩:=D.Sp 0 rfl;have e:(List.range u.blocks.length).map (hV u u.blocks.length 0)=(List.range u.blocks.length).map (Un.ahead u):=by
   refine(by grind[UL,ny])
  rw[e]at G;exact H S R _ (C.trans U) T.tail.tail G
 refine gv ?_;obtain⟨B,o⟩:∃B,u.blocks[i]? =some B:=by simp_all
 have W:B.next.length<=2:=AR g o
 refine zw (λk l h'=>∃(j:Nat) (ds:List V),l=[.ptr lu 0,.slice c.next 0 u.blocks.length,.I i,.I j]/\
  j+k=B.next.length/\Sn F h F h'/\ei F h' (Ed eN iy en ((List.range u.blocks.length).map (hV u i j)) (.slice c.next 0 u.blocks.length) ds::er lu 29 (uC u vv vb vs)::cs)) ?_ (k:=B.next.length)
  (by grind)
 rintro X _ _ _ _ I ⟨j,f,⟨⟩,Y,p,q⟩;unfold ql;obtain⟨l7,o7,bv,bn,bp,_,J,_,_,K,_,L⟩:=(m.since p).mh o;refine oF (q.ld 1 rfl rfl) (ed J (oF L.next (ed K.len ?_)));by_cases hj:j<B.next.length;rotate_left
 ·refine ir ?_;obtain rfl:j=B.next.length:=by omega
  refine fM ⟨k-1,by omega,i+1,f,rfl,by omega,p,?_⟩;have e:(List.range u.blocks.length).map (hV u (i+1) 0)=(List.range u.blocks.length).map (hV u i B.next.length):=by grind[UL,Hh]
  grind
 refine gv ?_;obtain⟨l8,o8,_,Z,j2⟩:=K.nat (ig hj) .i64;have r:B.next[j]<u.blocks.length:=g.nx i _ (by grind[next,BG]);have a:B.next[j]<((List.range u.blocks.length).map (hV u i j)).length:=by simpa using r
 have aa:((List.range u.blocks.length).map (hV u i j))[B.next[j]]'a=hV u i j B.next[j]:=by simp
 obtain ⟨l,d,d',h6,h7,hd,hl,M,e2,e3,e4,e5,e6,H7,s7⟩:=q.RV 0 rfl a (kE:=8) (EI:=3) (y:=i) (w:=[.I i]) (ro:=false) rfl (by decide) (by decide) (by
  grind[nw])
 refine oF (q.ld 1 rfl rfl) (ed J (oF L.next (ed Z (ed j2 (ed M (ed e2 ?_))))));rw[pY,fw];have s:eQ 3 1 8 d (.slice I.next 0 1) (I.new (.cells 3 1 true false (gJ [i])))=some (.val d' h6):=e3;rw[s,ej];refine ed M ?_;rw[e5,ej];simp only[jx]at H7;refine fM ⟨X-1,by omega,j+1,f.set (B.next[j]) d',rfl,by omega,p.trans s7,?_⟩;have e:((List.range u.blocks.length).map (hV u i j)).set (B.next[j]) (((List.range u.blocks.length).map (hV u i j))[B.next[j]]'a++[i])=(List.range u.blocks.length).map (hV u i (j+1)):=by
  refine List.ext_getElem (by simp) λb c P=>?_;rw[List.getElem_set];simp only[List.getElem_map,List.getElem_range];rw[GV o (ig hj)];by_cases eb:B.next[j]=b
  ·simp_all
  ·grind
 simp_all
end
open Un Dm
section
variable{F F':Nat->Prop}{h h':Hp}{cs:List Pc}{Q:fo}{u:U}{vv vb vs nv:V}{VL:List (List Nat)}
structure Nxs (n:Nat) (nx:Nat->List Nat) (VL:List (List Nat)):Prop where
 n0:0<n
 n3:n<=300
 len:VL.length=n
 at_:∀b:Nat,b<n->VL[b]? =some (nx b)
 two:∀b:Nat,b<n->(nx b).length<=2
 lt:∀b:Nat,b<n->∀t∈nx b,t<n
theorem Kx{n:Nat}{nx:Nat->List Nat}(w:Nxs n nx VL)(Cz:Int)(H0:ei F h cs)(hs:iA (eL eN) F h VL nv)
  (H:∀h' v seen,Sn F h F h'->ei F h' (eJ eB jb seen v::cs)->seen.length=n->(∀b:Nat,seen[b]? =some true↔Qt nx Cz b)->Q v h') :
  cP CS jh [nv,.I 0,.I Cz] h Q:=by
 refine AH rfl rfl ?_;unfold rN;have n0:=w.n0;have n3:=w.n3;refine ed hs.len ?_;rw[w.len,jY (z:=V.bool false) rfl (by decide) (by omega),fw];obtain⟨T,U⟩:=H0.make (E:=eB) (ty:=jb) (y:=false) (u:=V.bool false) n rfl rfl;generalize h.new (.cells jb 1 true false (List.replicate n (V.bool false)))=h1 at*;generalize h.next=r at*;by_cases hb:Cz=0
 ·refine fP (gw hb.symm (H h1 _ _ U T UO λb=>⟨λh=>?_,by grind[absurd,T8]⟩))
  grind
 refine fP (fT (by omega) ?_);obtain⟨l2,o2,i,e1,e2,_,I,s2⟩:=T.Ir 0 rfl (k:=0) (y:=true) (u:=V.bool true) (by simp_all) rfl rfl rfl;refine ed e1 ?_;rw[e2,ej];simp only[jx]at I;have ep:ji 3 1 1 (V.I 0) [(0,V.I 0)]=some (.cells 3 1 true false (gJ [0]),λl=> .slice l 0 1):=rfl;rw[ep,fw]
 have J:ei F (i.new (.cells 3 1 true false (gJ [0]))) (Xd en [0] (.slice i.next 0 1)::eJ eB jb ((List.replicate n false).set 0 true) (.slice r 0 n)::cs)/\Sn F i F (i.new (.cells 3 1 true false (gJ [0]))):=
  I.new (p:=Xd en [0] (.slice i.next 0 1)) _ (.inr ⟨i.next,[],[],rfl,MC _,I.fresh,fg _ _,rfl,rfl⟩) λl e=>e.symm
 obtain⟨J,s3⟩:=J;generalize i.new (.cells 3 1 true false (gJ [0]))=h3 at*;generalize i.next=lq at*;have K:=(U.trans s2).trans s3
 refine xP (λk l h'=>∃(seen:List Bool) (todo:List Nat) (s:V),l=[nv,.I Cz,.slice r 0 n,s]/\k=todo.length+seen.count false/\Sn F h F h'/\Wo n nx Cz none seen todo/\ei F h' (Xd en todo s::eJ eB jb seen (.slice r 0 n)::cs)) ?_ (k:=[0].length+((List.replicate n false).set 0 true).count false)
  ⟨_,_,_,rfl,rfl,K,Wo.start n0 hb,J⟩
 rintro k _ _ _ s h4 ⟨seen,todo,_,⟨⟩,hk,X,W,B⟩;unfold oG;refine ed (B.zcx 0 rfl) ?_
 cases todo with
 | nil=>
   refine E7 (fT (by simp) ?_)
   exact H h4 _ seen X B.tail W.len W.iff
 | cons b todo=>
   refine E7 (gw (by simp_all) ?_);obtain⟨la,oa,aa,x1,x2,x3,Y⟩:=B.zcv 0 rfl;refine ed x1 (ed x2 (ed x3 ?_));simp only[jx]at Y;obtain⟨W5,A4⟩:=W.pop;have o:b<n:=by
     have:=(jq.1 (W.work b (by simp))).1;rw[W.len]at this;exact this
   have ab:=w.two b o
   refine xS (λC l h'=>∃(j:Nat) (a:List Bool) (d:List Nat) (s:V),l=[nv,.I Cz,.slice r 0 n,s,.I (b:Nat),.I (j:Nat)]/\j+C=(nx b).length/\d.length+a.count false+1<=k/\Sn F h F h'/\Wo n nx Cz (some (b,j)) a d/\ei F h' (Xd en d s::eJ eB jb a (.slice r 0 n)::cs)) ?_ (k:=(nx b).length)
     (by grind)
   clear Y B W5 W X;rintro C _ _ _ q _ _ h6 ⟨j,f,g,_,⟨⟩,ac,L,D,x,G⟩;unfold oU;obtain⟨lb,ob,wb,_,Z,y2,wr⟩:=(hs.since D).list (w.at_ b o) .i64;refine ed Z (ed y2 (ed wr.len ?_));by_cases hj:j<(nx b).length
   ·refine gv ?_
    have M:=ig hj;have ae:=w.lt b o _ (BG hj);generalize (nx b)[j]=t at*;obtain⟨lc,oc,_,z1,z2⟩:=wr.nat M .i64;refine ed Z (ed y2 (ed z1 (ed z2 (ed (yx ..) ?_))));have ag:=x.len;obtain⟨c,hc⟩:∃c,f[t]? =some c:=by simp_all
    obtain ⟨ld,od,q1,q2⟩:=G.IX 1 rfl hc .i64;rw[show jz (.bool ((t:Int) != Cz)) (oB (some (V.slice r 0 n)) λN=>oB (some (V.I (t:Nat))) λO=>oB (gI 1 N O) λP=>oB (ey P h6) λR=>oD .not R)=some (.bool (((t:Int) != Cz)&&!c)) from by
      simp_all]
    rw[gW];refine iI ?_;have ah:=x.less;by_cases cnd:(t:Int)≠Cz/\c=false
    ·refine gw (by simp_all) ?_
     rw[cnd.2]at hc;obtain⟨le,oe,h7,e7,e8,_,H7,s7⟩:=G.Ir 1 rfl (k:=t) (y:=true) (u:=V.bool true) (by omega) rfl rfl rfl;refine ed e7 ?_;rw[e8,ej];simp only[jx,mZ]at H7;rw[pY,fw];obtain⟨A,h8,e9,_,H8,s8⟩:=H7.zbo 0 rfl (kE:=8) (EI:=3) (y:=t) (ro:=false) (by decide) (by omega);have S:eQ 3 1 8 q (.slice h7.next 0 1) (h7.new (.cells 3 1 true false (gJ [t])))=some (.val A h8):=e9;rw[S,ej];simp only[jx]at H8;refine nY ?_;unfold kW;refine kh (m:=1) (by omega) (by omega) ⟨C-1,by omega,j+1,_,_,A,rfl,by omega,?_,(D.trans s7).trans s8,x.push M A4 cnd.1 hc,H8⟩
     grind
    ·refine fT (λh=>cnd ?_) ?_
     ·simp_all
     refine nY ?_;unfold kW;refine kh (m:=1) (by omega) (by omega) ⟨C-1,by omega,j+1,_,_,q,rfl,by omega,L,D,x.skip M ?_,G⟩
     grind
   ·refine ir ?_
    obtain rfl:j=(nx b).length:=by omega
    exact⟨g.length+f.count false,by omega,f,g,q,rfl,rfl,D,x.next,G⟩
theorem VO:(X9).rel F h .ee [.ee]:=⟨rfl,rfl⟩
def za3(n:Nat)(nx:Nat->List Nat)(LG:List (List Bool)):Prop:=LG.length=n/\∀a:Nat,a<n->∃row,LG[a]? =some row/\row.length=n/\∀b:Nat,b<n->(row[b]? =some true↔oV nx a b)
theorem Xl{n:Nat}{nx:Nat->List Nat}(w:Nxs n nx VL)(U:ei F h cs)(hs:iA (eL eN) F h VL nv)
  (H:∀F' h' v LG,Sn F h F' h'->ei F' h' cs->iA (eL eB) F' h' LG v->za3 n nx LG->Q v h') :
  cP CS lZ [nv,.I 0] h Q:=by
 refine CQ rfl rfl ?_;unfold vw;have n0:=w.n0;have n3:=w.n3;refine ed hs.len ?_;rw[w.len,jY (z:=V.ee) rfl (by decide) (by omega),fw];obtain⟨W,X⟩:=U.make (E:=X9) (ty:=JN) (y:= .ee) (u:= .ee) n VO rfl;generalize h.new (.cells JN 1 true false (List.replicate n V.ee))=h1 at*;generalize h.next=r at*
 refine An (λk l h'=>∃(F':Nat->Prop) (a:Nat) (ds:List V) (LG:List (List Bool)),l=[nv,.I 0,.slice r 0 n,.I a]/\a+k=n/\Sn F h F' h'/\ei F' h' (eJ X9 JN ds (.slice r 0 n)::cs)/\ds.length=n/\LG.length=n/\
   ∀c:Nat,c<a->∃row d,LG[c]? =some row/\ds[c]? =some d/\iA eB F' h' row d/\row.length=n/\∀b:Nat,b<n->(row[b]? =some true↔oV nx c b)) ?_ (k:=n)
  ⟨F,0,_,List.replicate n [],rfl,by omega,X,W,UO,UO,by omega⟩
 rintro k _ _ _ _ J ⟨s,a,ds,LG,⟨⟩,hk,t,K,Y,B,f⟩;unfold rK;refine ed (hs.since t).len ?_;rw[w.len];by_cases ha:a<n;rotate_left
 ·refine ir ?_;obtain rfl:a=n:=by omega
  obtain⟨x,j,r3⟩:=K.jQ 0 rfl;simp only[jx]at x;refine H _ J _ LG (t.trans j) x.tail (r3.Up (E':=eL eB) rfl (by simp_all) (by omega) λc d row ws Z L hw=>?_) ⟨B,λc hc=>?_⟩
  ·have C:=(jq.1 L).1;obtain⟨M,d',g,i,D,_⟩:=f c (by omega);rw[Z]at i;rw[L]at g;cases g;cases i;obtain⟨rfl,_⟩:=hw;exact⟨d,rfl,D.mono j.mono⟩
  grind
 refine gv ?_;refine Kx w (a:Nat) K (hs.since t) λN O seen j x aa ab=>?_;have m:=t.trans j;refine ed (hs.since m).len ?_;rw[w.len,jY (z:=V.bool false) rfl (by decide) (by omega),fw];obtain⟨H4,P⟩:=x.make (E:=eB) (ty:=jb) (y:=false) (u:=V.bool false) n rfl rfl;generalize N.new (.cells jb 1 true false (List.replicate n (V.bool false)))=h4 at*;generalize N.next=lr at*;obtain⟨l5,o5,h5,g,i,_,H5,R⟩:=H4.Ir 2 rfl (k:=a) (y:=V.slice lr 0 n) (u:=V.slice lr 0 n) (by omega) rfl rfl ⟨rfl,rfl⟩;refine ed g ?_;rw[i,ej];simp only[jx,mZ]at H5;have ac:=(m.trans P).trans R;have ae:=(j.trans P).trans R
 refine Ax (λG l h'=>∃(b:Nat) (cur:List Bool),l=[nv,.I 0,.slice r 0 n,.I a,O,.I b]/\b+G=n/\Sn F h s h'/\Sn s J s h'/\cur.length=n/\(∀c:Nat,c<b->(cur[c]? =some true↔oV nx a c))/\
   ei s h' (eJ eB jb cur (.slice lr 0 n)::eJ eB jb seen O::eJ X9 JN (ds.set a (.slice lr 0 n)) (.slice r 0 n)::cs)) ?_ (k:=n)
  (by grind)
 rintro G _ _ _ _ _ _ h6 ⟨b,cur,⟨⟩,ag,I,o,C,S,A⟩;unfold rT;refine ed (hs.since I).len ?_;rw[w.len];by_cases hb:b<n
 ·refine gv ?_;obtain⟨lx,ox,dx,x1,x2,T⟩:=A.US 2 rfl (k:=a) (by simp_all) .i64 rfl;have hg:(ds.set a (V.slice lr 0 n))[a]'(by simp_all)=V.slice lr 0 n:=List.getElem_set_self _;rw[hg]at T;obtain rfl:dx=V.slice lr 0 n:=by have:=T.1;simp_all
  obtain⟨c,hc⟩:∃c,seen[b]? =some c:=by simp_all
  obtain⟨ly,oy,y1,y2⟩:=A.IX 1 rfl hc .i64;refine ed x1 (ed x2 (ed y1 (ed y2 (MZ ?_))));obtain⟨lz,oz,h7,z1,z2,zn,p,q⟩:=A.Ir 0 rfl (k:=b) (y:=!c) (u:=V.bool (!c)) (by omega) rfl rfl rfl;refine ed z1 ?_;rw[z2,ej];simp only[jx]at p;refine⟨zn,fM ⟨G-1,by omega,b+1,_,rfl,by omega,I.trans q,o.trans q,by simp_all,λe he=>?_,p⟩⟩
  grind[MT,Tu,HO]
 ·refine ir ?_;obtain rfl:b=n:=by omega
  obtain⟨p,q,r7⟩:=A.jQ 0 rfl;simp only[jx]at p;refine fM ⟨k-1,by omega,_,a+1,_,LG.set a cur,rfl,by omega,I.trans q,p.tail.tail,by simp_all,by simp_all,λc hc=>?_⟩;by_cases e:c=a
  ·simp_all
  ·rw[HO (by omega),HO (by omega)];obtain⟨row,d,g,i,D,e4⟩:=f c (by omega);exact⟨row,d,g,i,(D.since o).since q,e4⟩
structure zaM (u:U) (mh Fi:List Nat) (LG:List (List Bool)):Prop where
 at_:∀(v b k:Nat),At u v b k->mh[v]? =some b/\Fi[v]? =some k
 Qg:za3 u.blocks.length (next u) LG
def SD(u:U)(vv vb vs wb wp wd:V):List V:=[.I u.func,.I u.pc,vv,vb,vs,wb,wp,wd]
variable{mh Fi:List Nat}{LG:List (List Bool)}{wb wp wd:V}
theorem Eg(o:zaM u mh Fi LG)(C:ei F h cs)(i:CL F h u vv vb vs)(y:iA eN F h mh wb)(z:iA eN F h Fi wp)(A:iA (eL eB) F h LG wd){a b k c j:Nat}(e:At u a c j)(l:b<u.blocks.length)(hs:c=b/\j<k\/c≠b/\oV (next u) c b)
  (H:∀h',Sn F h F h'->ei F h' cs->Q (.bool true) h'):cP CS gN [.agg (SD u vv vb vs wb wp wd),.I a,.I b,.I k] h Q:=by
 refine wY rfl rfl ?_;unfold oi;obtain⟨D,E⟩:=o.at_ a c j e;refine nQ C (by simp only[SD,ev,i.v.one,i.b.one,i.s.one,y.one,z.one,A.one];rfl) λd f g=>?_;generalize h.next=lx at*;obtain⟨l1,O,_,G,I⟩:=(y.since g).nat D .i64;obtain⟨l2,P,_,R,S⟩:=(z.since g).nat E .i64;have J:ey (.ptr lx (0+5)) d=some wb:=f.ld 0 rfl rfl;have T:ey (.ptr lx (0+6)) d=some wp:=f.ld 0 rfl rfl;have U:ey (.ptr lx (0+7)) d=some wd:=f.ld 0 rfl rfl;have m:c<u.blocks.length:=by
  obtain⟨B,W,_⟩:=e;exact by grind
 obtain ⟨row,r1,r2,r3⟩:=o.Qg.2 c m;obtain⟨l3,X,Y,_,Z,z2,K⟩:=(A.since g).list r1 .i64;have hq:=H d g f.tail;refine ed (by rfl) (ed J (ed G (ed I (ed (ik ..) ?_))));rw[show jz (.bool ((c:Int) == (b:Int))) (oB (fH 6 (V.ptr lx 0)) λn=>oB (ey n d) λp=>oB (some (V.I a)) λq=>oB (gI 1 p q) λr=>oB (ey r d) λt=>oB (some (V.I k)) λw=>eo .lss 3 t w)=some (.bool (((c:Int) == (b:Int))&&decide ((j:Int)<k))) from by
  simp_all]
 rw[gW];rcases hs with⟨rfl,L⟩|⟨L,M⟩
 ·rw[show(((c:Int) == (c:Int))&&decide ((j:Int)<k))=true by rw[ve];exact⟨by simp,PY (by omega)⟩];exact ed rfl hq
 ·have x:=(r3 b l).2 M;obtain⟨l4,o4,_,w1,w2⟩:=K.bool x .i64;rw[show(((c:Int) == (b:Int))&&decide ((j:Int)<k))=false by grind];have N:((c:Int) != (b:Int))=true:=by rw[bne_iff_ne];omega
  refine ed (a:= .bool true) ?_ hq
  simp_all
theorem Mz(o:zaM u mh Fi LG)(g:Good u)(I:ei F h cs)(e:CL F h u vv vb vs)(B:iA eN F h mh wb)(C:iA eN F h Fi wp)(D:iA (eL eB) F h LG wd){s b k:Nat}{fs:List Fm}(a:u.eh[s]? =some fs)(p:b<u.blocks.length)(hs:∀w∈gY fs,∃c j,At u w c j/\(c=b/\j<k\/c≠b/\oV (next u) c b))
  (H:∀F' h',Sn F h F' h'->ei F' h' cs->Q (.bool true) h'):cP CS iE [.agg (SD u vv vb vs wb wp wd),.I s,.I b,.I k] h Q:=by
 refine wZ rfl rfl ?_;unfold oh;refine nQ I (by simp only[SD,ev,e.v.one,e.b.one,e.s.one,B.one,C.one,D.one];rfl) λX E G=>?_;generalize h.next=lx at*;have u1:=e.since G;obtain⟨l1,Y,f,_,J,K,_,L⟩:=u1.st a;refine ed (by rfl) (ed (by rfl) (ed (E.ld 0 rfl rfl) (ed J (ed K ?_))));refine MD E L (by grind[Ek]) λm M N O P r2=>?_;have R:=B8 (fs:=fs) (Ek g s fs a).2;have:=(Ek g s fs a).1;have q:=G.trans O
 refine vf (λr l h'=>∃i:Nat,l=[.I b,.I k,.ptr lx 0,N,.I (i:Nat)]/\i+r=(gY fs).length/\Sn F h m h'/\Sn m M m h'/\ei m h' (er lx _ (SD u vv vb vs wb wp wd)::cs)) ?_ (k:=(gY fs).length)
  ⟨0,rfl,by omega,q,Sn.refl _ _,P⟩
 rintro r _ _ _ _ _ S ⟨i,⟨⟩,hk,d,n,t⟩;unfold mO;have r3:=r2.since n;refine ed r3.len ?_;by_cases hi:i<(gY fs).length
 ·refine gv ?_;have T:=ig hi;obtain⟨c,j,y,z⟩:=hs _ (BG hi);generalize (gY fs)[i]=x at*;obtain⟨l4,Z,_,U,V⟩:=r3.nat T .i64;refine ed (t.C9 0 rfl rfl) (ed U (ed V ?_));refine Eg o t (e.since d) (B.since d) (C.since d) (D.since d) y p z λh4 A W=>?_;refine⟨A.next,ue (gw rfl ?_)⟩;exact fM ⟨r-1,by omega,i+1,rfl,by omega,d.trans A,n.trans A,W⟩
 ·exact ir (H m S d t.tail)
end
