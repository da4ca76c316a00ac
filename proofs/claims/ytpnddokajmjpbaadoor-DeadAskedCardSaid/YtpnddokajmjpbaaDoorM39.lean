/- Parts. -/
import Derived.Test.YtpnddokajmjpbaaDoorM28
import Derived.Test.YtpnddokajmjpbaaDoorM36
namespace Go.Proofs.YtpnddokajmjpbaaDoor.Hx
open Go.Proofs.YtpnddokajmjpbaaDoor.Un Go.Proofs.YtpnddokajmjpbaaDoor.Dm
def QuR (ty:Nat)(F:Nat->Prop)(h:Hp)(xs:List Nat)(v:V):Prop:=
 (v = .nilSlice/\xs=[])\/∃t pre post,v = .slice t pre.length xs.length/\t<h.next/\¬F t/\h.get t=some (.cells ty 1 true false (pre++nats xs++post))/\allOne pre=true/\allOne post=true
def quP (ty:Nat)(xs:List Nat)(v:V):Pc where
 foot:=Loc v
 ok F h:=QuR ty F h xs v
 inn:=λ{F h} a l b=>by
  rcases a with⟨rfl,_⟩|⟨t,pre,post,rfl,c,d,_⟩
  ·exact b.elim
  ·obtain rfl:t=l:=b;exact⟨c,d⟩
 keep:=λ{F h h'} a _ b f=>by
  rcases a with a|⟨t,pre,post,rfl,c,d,e,g⟩
  ·exact .inl a
  ·exact .inr ⟨t,pre,post,rfl,wAO c f,d,(b t rfl).trans e,g⟩
 mono:=λ{F F' h} a _ b=>by
  rcases a with a|⟨t,pre,post,rfl,c,d,e⟩
  ·exact .inl a
  ·exact .inr ⟨t,pre,post,rfl,c,b t rfl,e⟩
def eAny:Enc V where
 sz:=1
 rel _ _ n cs:=cs=[n]/\n.one=true
 len h:=by rw[h.1];rfl
 one h:=by rw[h.1,ee,h.2];rfl
 keep _ h:=h
 mono _ h:=h
section
variable{F F':Nat->Prop}{h h':Hp}{cs:List Pc}{Q:QP1}{u:U}{vv vb vs:V}
theorem Bq (xs:List Nat):(nats xs).length=xs.length:=wAb ..
theorem uV:∀xs:List Nat,allOne (nats xs)=true
 |[]=>rfl
 | x::xs=>by
   show allOne (V.int .i64 (x:Nat)::nats xs)=true;rw[ee,uV xs];rfl
theorem Dx (xs ys:List Nat):nats (xs++ys)=nats xs++nats ys:=wAx ..
theorem Hold.lenQ (H:Hold F h cs)(i:Nat){ty:Nat}{xs:List Nat}{v:V}(hi:cs[i]? =some (quP ty xs v)):pLen v=some (.int .i64 xs.length):=by
 rcases H.ok i _ hi with⟨rfl,rfl⟩|⟨t,pre,post,rfl,_⟩ <;> rfl
theorem Hold.oneQ (H:Hold F h cs)(i:Nat){ty:Nat}{xs:List Nat}{v:V}(hi:cs[i]? =some (quP ty xs v)):v.one=true:=by
 rcases H.ok i _ hi with⟨rfl,rfl⟩|⟨t,pre,post,rfl,_⟩ <;> rfl
theorem Hold.popQ (H:Hold F h cs)(i:Nat){ty x:Nat}{xs:List Nat}{v:V}(hi:cs[i]? =some (quP ty (x::xs) v)) :
  ∃l o c,pIx 1 v (.int .i64 0)=some (.ptr l o)/\pLd (.ptr l o) h=some (.int .i64 x)/\hsliceV 1 v (some (.int .i64 1)) none h=some c/\Hold F h (cs.set i (quP ty xs c)):=by
 rcases H.ok i _ hi with⟨_,a⟩|⟨t,pre,post,rfl,a,d,b,e,f⟩
 ·cases a
 ·refine⟨t,pre.length+0*1,.slice t (pre.length+1*1) ((x::xs).length-1),uD 1 t pre.length _ 0 .i64 (by simp),gZ b ?_,?_,H.swap hi (.inr ⟨t,pre++[V.int .i64 x],post,?_,a,d,?_,?_,f⟩) λ_ h=>h⟩
  ·rw[wAU,Nat.zero_mul,wB0,wAn (wAF _),Nat.sub_self];rfl
  ·unfold hsliceV cellsAt;simp only[b,en,wP];rw[show hbound 0 (some (V.int .i64 1))=some 1 from rfl,en,go _ (wBG _),go _ (wAS (by simp)),go _ (by rw[wAS (wAF _)];rfl)];rfl
  ·simp
  ·rw[b];simp[nats]
  ·rw[jd,e];rfl
theorem Hold.pushQ (H:Hold F h cs)(i:Nat){ty by_ ety y:Nat}{ro:Bool}{xs:List Nat}{v:V}(hi:cs[i]? =some (quP ty xs v))(w:by_<=1000)(x:xs.length<1000000) :
  ∃c h',happend ty 1 by_ v (.slice h.next 0 1) (h.new (.cells ety 1 true ro (nats [y])))=some (.val c h')/\h.next+1<=h'.next/\Hold F h' (cs.set i (quP ty (xs++[y]) c))/\Sn F h F h':=by
 obtain ⟨g,z⟩:=H.grow (Chg.new h (.cells ety 1 true ro (nats [y])));have l:xcells (h.new (.cells ety 1 true ro (nats [y]))) 1 (.slice h.next 0 1)=some (1,nats [y]):=jl (k:=0) rfl;have L:(h.new (.cells ety 1 true ro (nats [y]))).next=h.next+1:=rfl;have hq:=g.ok i _ hi;generalize h.new (.cells ety 1 true ro (nats [y]))=b at*;have A:(xs.length+1)*by_<=1000000*1000:=Nat.mul_le_mul (by omega) w;have m:∃c h',happend ty 1 by_ v (.slice h.next 0 1) b=some (.val c h')/\QuR ty F h' (xs++[y]) c/\Chg (Loc v) b h'/\∀t,Loc c t->Loc v t\/b.next<=t:=by
  rcases hq with⟨rfl,rfl⟩|⟨t,pre,post,rfl,j,B,r,C,d⟩
  ·refine⟨.slice b.next 0 1,b.new (.cells ty 1 true false (nats [y])),?_,.inr ⟨b.next,[],[],rfl,wAk _,λn=>wBW _ (g.fl _ n),ef _ _,rfl,rfl⟩,Chg.new _ _,λt e=> .inr (wB1 e)⟩;unfold happend;simp only[l,en];show bB (allOne (nats [y])) _=_;rw[go _ (uV _),go _ (show Nat.ble (Nat.mul 1 by_) 70368744177664=true from wAS (show 1*by_<=_ by omega)),go _ (show Nat.ble 1 70368744177664=true from rfl)]
  ·have e0:(pre++nats xs++post).length=pre.length+xs.length+post.length:=by rw[wAM,wAM,Bq]
   cases post with
   | nil =>
     refine⟨.slice b.next 0 (xs.length+1),(b.put t (.cells ty 1 false false (pre++nats xs++[]))).new (.cells ty 1 true false (nats xs++nats [y])),?_,.inr ⟨b.next,[],[],by simp,wAk _,λn=>wBW _ (g.fl _ n),?_,rfl,rfl⟩,(Chg.put (S:=Loc (.slice t pre.length xs.length)) _ rfl j).trans (Chg.new _ _),λt e=> .inr (wB1 e)⟩
     ·unfold happend cellsAt
      have f:sub (pre++nats xs++[]) pre.length (Nat.mul xs.length 1)=some (nats xs):=by
        show sub (pre++nats xs++[]) pre.length (xs.length*1)=_;rw[ve (by rw[e0];simp),wAa,List.drop_left,wA1 (by rw[Bq];omega)]
      have a:Nat.ble (Nat.add pre.length (Nat.mul (Nat.add xs.length 1) 1)) (pre++nats xs++[]).length=false:=by
        rw[wBt];intro D;have:=wAZ D;rw[e0]at this;have o:Nat.add pre.length (Nat.mul (Nat.add xs.length 1) 1)=pre.length+(xs.length+1)*1:=rfl;rw[o]at this;simp at this;omega
      simp only[l,en];show bB (allOne (nats [y])) _=_;rw[go _ (uV _)];simp only[r,en,f,uV];rw[go _ (show true=true from rfl),go _ (show(!false)=true from rfl),go _ (wBG _),a];simp only[j6];rw[go _ (show Nat.ble (Nat.mul (Nat.add xs.length 1) by_) 70368744177664=true from wAS (show(xs.length+1)*by_<=_ by omega)),go _ (show Nat.ble (Nat.add xs.length 1) 70368744177664=true from wAS (show xs.length+1<=70368744177664 by omega))]
     ·simp only[wAa,wAl,Dx]
      exact ef (b.put t _) _
   | cons p post=>
     refine⟨.slice t pre.length (xs.length+1),b.put t (.cells ty 1 true false (pre++nats (xs++[y])++post)),?_,.inr ⟨t,pre,post,by simp,j,B,fd _ j,C,?_⟩,Chg.put _ rfl j,λt e=> .inl e⟩
     ·unfold happend cellsAt
      have a:Nat.ble (Nat.add pre.length (Nat.mul (Nat.add xs.length 1) 1)) (pre++nats xs++p::post).length=true:=by
        refine wAS ?_;show pre.length+(xs.length+1)*1<=_;rw[e0,wAX];omega
      have q:splice (Nat.add pre.length (Nat.mul xs.length 1)) (pre++nats xs++p::post) (nats [y])=some (pre++nats (xs++[y])++post):=by
        have s:(nats [y]).length=1:=rfl;have o:(pre++nats xs).length=pre.length+xs.length:=by rw[wAM,Bq]
        rw[show Nat.add pre.length (Nat.mul xs.length 1)=pre.length+xs.length by show pre.length+xs.length*1=_;omega,uu (by rw[e0,s,wAX];omega),s];congr 1;rw[<-o,List.take_left,Dx,<-wBp,List.drop_left];simp
      simp only[l,en];show bB (allOne (nats [y])) _=_;rw[go _ (uV _)];simp only[r,en];rw[go _ (show true=true from rfl),go _ (show(!false)=true from rfl),go _ (wBG _),a];simp only[q,en]
     ·rw[ee]at d
      cases hp:p.one with
      |true=>rw[hp]at d;exact d
      |false=>rw[hp]at d;cases d
 obtain⟨c,h',E,G,u,I⟩:=m;obtain⟨J,K⟩:=g.turn' (p:=quP ty (xs++[y]) c) hi u G I;exact⟨c,h',E,by have:=u.next;omega,J,z.trans K⟩
theorem Ao {a n:Nat}(b:a<n)(H:Q (.bool true) h):cP CS fh [.int .i64 a,.int .i64 n] h Q:=by
 refine xZ rfl rfl ?_;unfold rA;refine d9 (kX ..) ?_;simp only[en,j4,gv,fj];rw[wBF (show(0:Int)<=(a:Nat) by omega),wBF (show(a:Int)<(n:Nat) by omega)];exact H
theorem rgives {op:Nat}(H:Q (.bool (gives op)) h):cP CS f0 [.int .i64 op] h Q:=by
 refine vw rfl rfl ?_;unfold pe;refine d9 (j4 ..) ?_;simp only[en,fF,sU,fj];have e:(decide ((op:Int)<19) ||((op:Int) == 21))=gives op:=by
  unfold gives;rw[show((op:Int) == 21)=(op == 21) from ieq _ 21];congr 1;rw[decide_eq_decide];omega
 rw[e];exact H
theorem SlR.frm2 {fs:List Fm}{f:V}(a:SlR eF F h fs f){i:Nat}{x:Fm}(d:fs[i]? =some x) :
  ∃l o a b,F l/\pIx 4 f (.int .i64 i)=some (.ptr l o)/\pLd (.ptr l (o+2)) h=some a/\pLd (.ptr l (o+3)) h=some b/\SlR eN F h x.locals a/\SlR eN F h x.stack b:=by
 obtain⟨hi,rfl⟩:=wAB.1 d;obtain⟨l,o,w,e,g,m,⟨a,b,rfl,j,k⟩,c⟩:=a.ix hi .i64;exact⟨l,o,a,b,e,g,c 2 a rfl,c 3 b rfl,j,k⟩
theorem vO:∀{fs:List Fm},(∀f∈fs,f.locals.length<=40/\f.stack.length<=60)->(frames fs).length<=fs.length*100
 |[],_=>by simp[frames]
 | f::fs,hf=>by
   have a:=vO (fs:=fs) λf b=>hf f (wA0 _ b);obtain⟨c,d⟩:=hf f (wA9 ..);unfold frames at a⊢;simp only[wBr,wAM,wAX];omega
theorem CE {fs:List Fm}{f:V}(C:Hold F h cs)(hs:SlR eF F h fs f)(i:fs.length<=30/\∀f∈fs,f.locals.length<=40/\f.stack.length<=60)
  (H:∀F' h' v,Sn F h F' h'->Hold F' h' cs->SlR eN F' h' (frames fs) v->Q v h'):cP CS gy [.agg [f]] h Q:=by
 refine uJ rfl rfl ?_;unfold oI;refine kh C (by simp only[ee,hs.one];rfl) λt m u=>?_;generalize h.next=n at*;have m:Hold F t (rowP eN tyInt [] .nilSlice::cellP n 38 [f]::cs):=m.add .nil λ_ h=>h
 refine sX (λk l h'=>∃(j:Nat) (v:V),l=[.ptr n 0,v,.int .i64 j]/\j+k=fs.length/\Sn F t F h'/\Hold F h' (rowP eN tyInt (frames (fs.take j)) v::cellP n 38 [f]::cs)) ?_ (k:=fs.length)
  ⟨0,_,rfl,by omega,Sn.refl _ _,m⟩
 rintro k _ v _ D ⟨j,_,⟨⟩,S,p,b⟩;unfold kR;have e:=(hs.since u).since p;refine oF (b.ld 1 rfl rfl) (d9 e.len ?_);by_cases hj:j<fs.length;rotate_left
 ·refine ltNo ?_;rw[wA1 (by omega)]at b;obtain⟨d,g,r3⟩:=b.freezeR 0 rfl;simp only[wAC]at d;exact H _ _ _ ((u.trans p).trans g) d.tail.tail r3
 refine ltYes ?_;obtain⟨l,o,a,c,E,w,G,x,I,J⟩:=e.frm2 (wAA hj);obtain⟨T,U⟩:=i.2 _ (wAR hj);have hlen:=vO (fs:=fs.take j) λf K=>i.2 f (wB4 K);rw[wAc]at hlen;have q:(frames (fs.take j)).length<=3000:=by
  have:=i.1;have:min j fs.length<=30:=by omega
  omega
 refine oF (b.ld 1 rfl rfl) (d9 w (oF G (oF (b.ld 1 rfl rfl) (d9 w (oF x ?_)))));obtain⟨y,z,L,n3,d,g⟩:=b.appR 0 rfl (by_:=8) I (by decide) (by decide) (by omega);have r:happend 3 1 8 v a D=some (.val y z):=L;rw[r,ec];simp only[wAC]at d;refine⟨n3,gQ x (g.keep _ E),d.ld 1 rfl rfl,?_⟩;obtain⟨A,M,N,O,B,P⟩:=d.appR 0 rfl (by_:=8) (J.since g) (by decide) (by decide) (by simp only[wAM];omega);have s:happend 3 1 8 y c z=some (.val A M):=N;rw[s,ec];simp only[wAC]at B;refine⟨O,addOne ⟨k-1,by omega,j+1,A,rfl,by omega,(p.trans g).trans P,?_⟩⟩;have R:frames (fs.take (j+1))=frames (fs.take j)++fs[j].locals++fs[j].stack:=by
  rw[wAT hj];unfold frames;simp only[wBR,wBr,List.flatMap_nil,wAa,wAU]
 rw[R];exact B
theorem Jv {xs:List Nat}{a b:V}(c:SlR eN F h xs a)(d:SlR eN F h xs b)(m:xs.length<1000000000)(H:Q (.bool true) h):cP CS iM [a,b] h Q:=by
 refine wc rfl rfl ?_;unfold qb;refine d9 c.len (d9 d.len (yU (if_t rfl ?_)));refine ud (λk l h'=>∃i:Nat,l=[a,b,.int .i64 (i:Nat)]/\i+k=xs.length/\h' = h) ?_ (k:=xs.length) ⟨0,rfl,by omega,rfl⟩;rintro k _ _ _ h' ⟨i,⟨⟩,n,rfl⟩;unfold mY;refine d9 c.len ?_;by_cases hi:i<xs.length
 ·refine ltYes ?_;obtain⟨l,o,_,e,f⟩:=c.nat (wAA hi) .i64;obtain⟨p,q,_,g,j⟩:=d.nat (wAA hi) .i64;refine d9 e (d9 f (d9 g (d9 j (yU (if_t rfl ?_)))));exact addOne ⟨k-1,by omega,i+1,rfl,by omega,rfl⟩
 ·exact ltNo H
theorem GY (g:Good u)(R:Hold F h cs)(n:URd F h u vv vb vs)(H:∀F' h' v,Sn F h F' h'->Hold F' h' cs->SlR (eL eN) F' h' ((List.range u.blocks.length).map (Un.ahead u)) v->Q v h') :
  cP CS iC [.agg (uC u vv vb vs)] h Q:=by
 refine vM rfl rfl ?_;unfold pD;have nb:=g.nb;have pf:∀{l o k:Nat},pFA k (.ptr l o)=some (.ptr l (o+k)):=ed _ _ _;refine kh R n.one λc D G=>?_;generalize h.next=lu at*;refine oF (D.ld 0 rfl rfl) (d9 (n.since G).b.len ?_);rw[gh (z:=V.nilSlice) rfl (by decide) (by omega),ev];obtain⟨I,S⟩:=D.newNest (E:=eN) (tyO:=tyInts) (ty:=tyInt) u.blocks.length;have q:List.replicate u.blocks.length ([]:List Nat)=(List.range u.blocks.length).map (aheadUp u 0 0):=by
  refine List.ext_getElem (by simp) λi c T=>?_;simp[y0]
 rw[q]at I
 refine ta (λk l h'=>∃(i:Nat) (ds:List V),l=[.ptr lu 0,.slice c.next 0 u.blocks.length,.int .i64 i]/\i+k=u.blocks.length/\Sn F h F h'/\
  Hold F h' (nestP eN tyInts tyInt ((List.range u.blocks.length).map (aheadUp u i 0)) (.slice c.next 0 u.blocks.length) ds::cellP lu 30 (uC u vv vb vs)::cs)) ?_ (k:=u.blocks.length) ⟨0,_,rfl,by omega,G.trans S,I⟩
 rintro k _ _ _ U ⟨i,ds,⟨⟩,hk,r,s⟩;unfold lR;refine oF (s.ld 1 rfl rfl) (d9 (n.since r).b.len ?_);by_cases hi:i<u.blocks.length;rotate_left
 ·refine ltNo ?_;obtain rfl:i=u.blocks.length:=by omega
  obtain ⟨W,X,Y,r4⟩:=s.freezeN 0 rfl;have e:(List.range u.blocks.length).map (aheadUp u u.blocks.length 0)=(List.range u.blocks.length).map (Un.ahead u):=by
   refine wBS λb _=>jO u b
  rw[e]at r4;exact H W U _ (r.trans Y) X.tail.tail r4
 refine ltYes ?_;obtain⟨B,f⟩:∃B,u.blocks[i]? =some B:=⟨_,wAA hi⟩
 have Z:B.next.length<=2:=xo g f
 refine tE (λk l h'=>∃(j:Nat) (ds:List V),l=[.ptr lu 0,.slice c.next 0 u.blocks.length,.int .i64 i,.int .i64 j]/\
  j+k=B.next.length/\Sn F h F h'/\Hold F h' (nestP eN tyInts tyInt ((List.range u.blocks.length).map (aheadUp u i j)) (.slice c.next 0 u.blocks.length) ds::cellP lu 30 (uC u vv vb vs)::cs)) ?_ (k:=B.next.length)
  ⟨0,ds,rfl,by omega,r,s⟩
 rintro k1 _ _ _ _ J ⟨j,m,⟨⟩,aa,t,p⟩;unfold mt;obtain⟨l7,o7,bv,bn,bp,_,K,_,_,L,_,M⟩:=(n.since t).blk f;refine oF (p.ld 1 rfl rfl) (d9 K (oF M.next (d9 L.len ?_)));by_cases hj:j<B.next.length;rotate_left
 ·refine ltNo ?_;obtain rfl:j=B.next.length:=by omega
  refine addOne ⟨k-1,by omega,i+1,m,rfl,by omega,t,?_⟩;have e:(List.range u.blocks.length).map (aheadUp u (i+1) 0)=(List.range u.blocks.length).map (aheadUp u i B.next.length):=wBS λb _=>zw f;rw[e];exact p
 refine ltYes ?_;obtain⟨l8,o8,_,j1,j2⟩:=L.nat (wAA hj) .i64;have x:B.next[j]<u.blocks.length:=g.nx i _ (by unfold next;rw[f];exact wAR hj);have a:B.next[j]<((List.range u.blocks.length).map (aheadUp u i j)).length:=by simpa using x
 have A:((List.range u.blocks.length).map (aheadUp u i j))[B.next[j]]'a=aheadUp u i j B.next[j]:=by simp
 obtain ⟨l,d,N,h6,h7,hd,hl,O,e2,e3,e4,e5,e6,P,s7⟩:=p.nestApp 0 rfl a (by_:=8) (ety:=3) (y:=i) (w:=[.int .i64 i]) (ro:=false) rfl (by decide) (by decide) (by
  rw[A];have:=jR g (i:=i) (j:=j) (b:=B.next[j]) (by omega) (by omega);omega)
 refine oF (p.ld 1 rfl rfl) (d9 K (oF M.next (d9 j1 (d9 j2 (d9 O (d9 e2 ?_))))));rw[iY,ev];have C:happend 3 1 8 d (.slice J.next 0 1) (J.new (.cells 3 1 true false (nats [i])))=some (.val N h6):=e3;rw[C,ec];refine d9 O ?_;rw[e5,ec];simp only[wAC]at P;refine addOne ⟨k1-1,by omega,j+1,m.set (B.next[j]) N,rfl,by omega,t.trans s7,?_⟩;have e:((List.range u.blocks.length).map (aheadUp u i j)).set (B.next[j]) (((List.range u.blocks.length).map (aheadUp u i j))[B.next[j]]'a++[i])=(List.range u.blocks.length).map (aheadUp u i (j+1)):=by
  refine List.ext_getElem (by simp) λb c T=>?_;rw[List.getElem_set];simp only[List.getElem_map,List.getElem_range];rw[zs f (wAA hj)];by_cases eb:B.next[j]=b
  ·subst eb;simp
  ·rw[if_neg eb,if_neg λh=>eb h.symm]
 rw[<-e];exact P
end
open Go.Proofs.YtpnddokajmjpbaaDoor.Un Go.Proofs.YtpnddokajmjpbaaDoor.Dm
section
variable{F F':Nat->Prop}{h h':Hp}{cs:List Pc}{Q:QP1}{u:U}{vv vb vs nv:V}{nxs:List (List Nat)}
structure Nxs (n:Nat) (nx:Nat->List Nat) (nxs:List (List Nat)):Prop where
 n0:0<n
 n3:n<=300
 len:nxs.length=n
 at_:∀b:Nat,b<n->nxs[b]? =some (nx b)
 two:∀b:Nat,b<n->(nx b).length<=2
 lt:∀b:Nat,b<n->∀t∈nx b,t<n
theorem Be {n:Nat}{nx:Nat->List Nat}(w:Nxs n nx nxs)(but:Int)(H0:Hold F h cs)(hs:SlR (eL eN) F h nxs nv)
  (H:∀h' v seen,Sn F h F h'->Hold F h' (rowP eB tyBool seen v::cs)->seen.length=n->(∀b:Nat,seen[b]? =some true↔Free nx but b)->Q v h') :
  cP CS gi [nv,.int .i64 0,.int .i64 but] h Q:=by
 refine uc rfl rfl ?_;unfold mX;have n0:=w.n0;have n3:=w.n3;refine d9 hs.len ?_;rw[w.len,gh (z:=V.bool false) rfl (by decide) (by omega),ev];obtain⟨X,Y⟩:=H0.make (E:=eB) (ty:=tyBool) (y:=false) (u:=V.bool false) n rfl rfl;generalize h.new (.cells tyBool 1 true false (List.replicate n (V.bool false)))=h1 at*;generalize h.next=r at*;by_cases hb:but=0
 ·refine fk (if_t hb.symm (H h1 _ _ Y X wAi λb=>⟨λh=>?_,λh=>absurd h (Gg hb)⟩));rw[wA4]at h;split at h <;> cases h
 refine fk (if_f (λh=>hb h.symm) ?_);obtain⟨l2,o2,i,e1,e2,_,G,s2⟩:=X.stR 0 rfl (k:=0) (y:=true) (u:=V.bool true) (by rw[wAi];exact n0) rfl rfl rfl;refine d9 e1 ?_;rw[e2,ec];simp only[wAC]at G;have ep:pBS 3 1 1 (V.int .i64 0) [(0,V.int .i64 0)]=some (.cells 3 1 true false (nats [0]),λl=> .slice l 0 1):=rfl;rw[ep,ev]
 have I:Hold F (i.new (.cells 3 1 true false (nats [0]))) (quP tyInt [0] (.slice i.next 0 1)::rowP eB tyBool ((List.replicate n false).set 0 true) (.slice r 0 n)::cs)/\Sn F i F (i.new (.cells 3 1 true false (nats [0]))):=
  G.new (p:=quP tyInt [0] (.slice i.next 0 1)) _ (.inr ⟨i.next,[],[],rfl,wAk _,G.fresh,ef _ _,rfl,rfl⟩) λl e=>e.symm
 obtain⟨I,s3⟩:=I;generalize i.new (.cells 3 1 true false (nats [0]))=h3 at*;generalize i.next=lq at*;have J:=(Y.trans s2).trans s3
 refine rP (λk l h'=>∃(seen:List Bool) (todo:List Nat) (tv:V),l=[nv,.int .i64 but,.slice r 0 n,tv]/\k=todo.length+seen.count false/\Sn F h F h'/\Wo n nx but none seen todo/\Hold F h' (quP tyInt todo tv::rowP eB tyBool seen (.slice r 0 n)::cs)) ?_ (k:=[0].length+((List.replicate n false).set 0 true).count false)
  ⟨_,_,_,rfl,rfl,J,Wo.start n0 hb,I⟩
 rintro k _ _ _ tv h4 ⟨seen,todo,_,⟨⟩,hk,K,W,A⟩;unfold kG;refine d9 (A.lenQ 0 rfl) ?_
 cases todo with
 | nil=>
   refine tS (if_f (by simp) ?_)
   exact H h4 _ seen K A.tail W.len W.iff
 | cons b todo=>
   refine tS (if_t (by simp <;> omega) ?_);obtain⟨la,oa,L,x1,x2,x3,M⟩:=A.popQ 0 rfl;refine d9 x1 (d9 x2 (d9 x3 ?_));simp only[wAC]at M;obtain⟨Z,hfree⟩:=W.pop;have o:b<n:=by
     have:=(wAB.1 (W.work b (by simp))).1;rw[W.len]at this;exact this
   have aa:=w.two b o
   refine rT (λB l h'=>∃(j:Nat) (a:List Bool) (d:List Nat) (tv:V),l=[nv,.int .i64 but,.slice r 0 n,tv,.int .i64 (b:Nat),.int .i64 (j:Nat)]/\j+B=(nx b).length/\d.length+a.count false+1<=k/\Sn F h F h'/\Wo n nx but (some (b,j)) a d/\Hold F h' (quP tyInt d tv::rowP eB tyBool a (.slice r 0 n)::cs)) ?_ (k:=(nx b).length)
     ⟨0,seen,todo,L,rfl,by omega,by rw[hk,wAX];omega,K,Z,M⟩
   clear M A Z W K;rintro B _ _ _ q _ _ h6 ⟨j,f,g,_,⟨⟩,ab,N,C,s,D⟩;unfold kF;obtain⟨lb,ob,wb,_,y1,y2,wr⟩:=(hs.since C).list (w.at_ b o) .i64;refine d9 y1 (d9 y2 (d9 wr.len ?_));by_cases hj:j<(nx b).length
   ·refine ltYes ?_
    have O:=wAA hj;have ac:=w.lt b o _ (wAR hj);generalize (nx b)[j]=t at*;obtain⟨lc,oc,_,z1,z2⟩:=wr.nat O .i64;refine d9 y1 (d9 y2 (d9 z1 (d9 z2 (d9 (ut ..) ?_))));have ae:=s.len;obtain⟨c,hc⟩:∃c,f[t]? =some c:=⟨_,wAA (by omega)⟩
    obtain ⟨ld,od,q1,q2⟩:=D.boolR 1 rfl hc .i64;rw[show pAnd (.bool ((t:Int) != but)) (oB (some (V.slice r 0 n)) λP=>oB (some (V.int .i64 (t:Nat))) λR=>oB (pIx 1 P R) λS=>oB (pLd S h6) λT=>hun .not T)=some (.bool (((t:Int) != but)&&!c)) from by
      simp only[en,q1,q2];show pAnd (.bool _) (some (.bool (!c)))=_;rw[gv]]
    rw[fj];refine st_b ?_;have ag:=s.less;by_cases cnd:(t:Int)≠but/\c=false
    ·refine if_t (by rw[wAJ,wCJ,cnd.2];exact⟨cnd.1,rfl⟩) ?_
     rw[cnd.2]at hc;obtain⟨le,oe,h7,e7,e8,_,H7,s7⟩:=D.stR 1 rfl (k:=t) (y:=true) (u:=V.bool true) (by omega) rfl rfl rfl;refine d9 e7 ?_;rw[e8,ec];simp only[wAC,wAE]at H7;rw[iY,ev];obtain⟨x,h8,e9,_,H8,s8⟩:=H7.pushQ 0 rfl (by_:=8) (ety:=3) (y:=t) (ro:=false) (by decide) (by omega);have U:happend 3 1 8 q (.slice h7.next 0 1) (h7.new (.cells 3 1 true false (nats [t])))=some (.val x h8):=e9;rw[U,ec];simp only[wAC]at H8;refine j8 ?_;unfold io;refine gj (m:=1) (by omega) (by omega) ⟨B-1,by omega,j+1,_,_,x,rfl,by omega,?_,(C.trans s7).trans s8,s.push O hfree cnd.1 hc,H8⟩;have:=Un.nR hc;rw[wAM,wBP];omega
    ·refine if_f (λh=>cnd ?_) ?_
     ·rw[wAJ,wCJ]at h
      exact⟨h.1,by simpa using h.2⟩
     refine j8 ?_;unfold io;refine gj (m:=1) (by omega) (by omega) ⟨B-1,by omega,j+1,_,_,q,rfl,by omega,N,C,s.skip O ?_,D⟩;by_cases e:(t:Int)=but
     ·exact .inl e
     ·right
      rw[hc]
      cases c with
      |true=>rfl
      |false=>exact absurd ⟨e,rfl⟩ cnd
   ·refine ltNo ?_
    obtain rfl:j=(nx b).length:=by omega
    exact⟨g.length+f.count false,by omega,f,g,q,rfl,rfl,C,s.next,D⟩
theorem Ht:(eAny).rel F h .nilSlice [.nilSlice]:=⟨rfl,rfl⟩
def DomR (n:Nat)(nx:Nat->List Nat)(dss:List (List Bool)):Prop:=dss.length=n/\∀a:Nat,a<n->∃row,dss[a]? =some row/\row.length=n/\∀b:Nat,b<n->(row[b]? =some true↔Domi nx a b)
theorem IK {n:Nat}{nx:Nat->List Nat}(w:Nxs n nx nxs)(H0:Hold F h cs)(hs:SlR (eL eN) F h nxs nv)
  (H:∀F' h' v dss,Sn F h F' h'->Hold F' h' cs->SlR (eL eB) F' h' dss v->DomR n nx dss->Q v h') :
  cP CS iL [nv,.int .i64 0] h Q:=by
 refine wh rfl rfl ?_;unfold qe;have n0:=w.n0;have n3:=w.n3;refine d9 hs.len ?_;rw[w.len,gh (z:=V.nilSlice) rfl (by decide) (by omega),ev];obtain⟨H1,s1⟩:=H0.make (E:=eAny) (ty:=tyBools) (y:= .nilSlice) (u:= .nilSlice) n Ht rfl;generalize h.new (.cells tyBools 1 true false (List.replicate n V.nilSlice))=h1 at*;generalize h.next=x at*
 refine ul (λk l h'=>∃(F':Nat->Prop) (a:Nat) (ds:List V) (dss:List (List Bool)),l=[nv,.int .i64 0,.slice x 0 n,.int .i64 a]/\a+k=n/\Sn F h F' h'/\Hold F' h' (rowP eAny tyBools ds (.slice x 0 n)::cs)/\ds.length=n/\dss.length=n/\
   ∀c:Nat,c<a->∃row d,dss[c]? =some row/\ds[c]? =some d/\SlR eB F' h' row d/\row.length=n/\∀b:Nat,b<n->(row[b]? =some true↔Domi nx c b)) ?_ (k:=n)
  ⟨F,0,_,List.replicate n [],rfl,by omega,s1,H1,wAi,wAi,λc hc=>by omega⟩
 rintro k _ _ _ _ P ⟨A,a,ds,dss,⟨⟩,hk,B,R,G,o,f⟩;unfold mQ;refine d9 (hs.since B).len ?_;rw[w.len];by_cases ha:a<n;rotate_left
 ·refine ltNo ?_;obtain rfl:a=n:=by omega
  obtain⟨C,p,r3⟩:=R.freezeR 0 rfl;simp only[wAC]at C;refine H _ P _ dss (B.trans p) C.tail (r3.reR (E':=eL eB) rfl (λ_ h=>h) (by omega) λc d row ws hd S hw=>?_) ⟨o,λc hc=>?_⟩
  ·have j:=(wAB.1 S).1;obtain⟨T,d',g,m,I,_⟩:=f c (by omega);rw[hd]at m;rw[S]at g;cases g;cases m;obtain⟨rfl,_⟩:=hw;exact⟨d,rfl,I.mono p.mono⟩
  ·obtain⟨row,d,g,_,_,J⟩:=f c hc;exact⟨row,g,J⟩
 refine ltYes ?_;refine Be w (a:Nat) R (hs.since B) λU sv seen p C aa K=>?_;have q:=B.trans p;refine d9 (hs.since q).len ?_;rw[w.len,gh (z:=V.bool false) rfl (by decide) (by omega),ev];obtain⟨H4,W⟩:=C.make (E:=eB) (ty:=tyBool) (y:=false) (u:=V.bool false) n rfl rfl;generalize U.new (.cells tyBool 1 true false (List.replicate n (V.bool false)))=h4 at*;generalize U.next=lr at*;obtain⟨l5,o5,h5,g,m,_,X,Y⟩:=H4.stR 2 rfl (k:=a) (y:=V.slice lr 0 n) (u:=V.slice lr 0 n) (by omega) rfl rfl ⟨rfl,rfl⟩;refine d9 g ?_;rw[m,ec];simp only[wAC,wAE]at X;have L:=(q.trans W).trans Y;have M:=(p.trans W).trans Y
 refine ug (λN l h'=>∃(b:Nat) (cur:List Bool),l=[nv,.int .i64 0,.slice x 0 n,.int .i64 a,sv,.int .i64 b]/\b+N=n/\Sn F h A h'/\Sn A P A h'/\cur.length=n/\(∀c:Nat,c<b->(cur[c]? =some true↔Domi nx a c))/\
   Hold A h' (rowP eB tyBool cur (.slice lr 0 n)::rowP eB tyBool seen sv::rowP eAny tyBools (ds.set a (.slice lr 0 n)) (.slice x 0 n)::cs)) ?_ (k:=n)
  ⟨0,_,rfl,by omega,L,M,wAi,λc hc=>by omega,X⟩
 rintro N _ _ _ _ _ _ h6 ⟨b,cur,⟨⟩,ab,O,r,j,i,D⟩;unfold mW;refine d9 (hs.since O).len ?_;rw[w.len];by_cases hb:b<n
 ·refine ltYes ?_;obtain⟨lx,ox,dx,x1,x2,Z⟩:=D.ix1 2 rfl (k:=a) (by rw[wA6];omega) .i64 rfl;have hg:(ds.set a (V.slice lr 0 n))[a]'(by rw[wA6];omega)=V.slice lr 0 n:=List.getElem_set_self _;rw[hg]at Z;obtain rfl:dx=V.slice lr 0 n:=by have:=Z.1;simpa using this
  obtain⟨c,hc⟩:∃c,seen[b]? =some c:=⟨_,wAA (by omega)⟩
  obtain⟨ly,oy,y1,y2⟩:=D.boolR 1 rfl hc .i64;refine d9 x1 (d9 x2 (d9 y1 (d9 y2 (Jb ?_))));obtain⟨lz,oz,h7,z1,z2,zn,s,t⟩:=D.stR 0 rfl (k:=b) (y:=!c) (u:=V.bool (!c)) (by omega) rfl rfl rfl;refine d9 z1 ?_;rw[z2,ec];simp only[wAC]at s;refine⟨zn,addOne ⟨N-1,by omega,b+1,_,rfl,by omega,O.trans t,r.trans t,by rw[wA6];exact j,λe he=>?_,s⟩⟩;by_cases eb:e=b
  ·subst eb;rw[wAK (by omega),<-GM,<-K e,hc];cases c <;> simp
  ·rw[wAN λh=>eb h.symm];exact i e (by omega)
 ·refine ltNo ?_;obtain rfl:b=n:=by omega
  obtain⟨s,t,r7⟩:=D.freezeR 0 rfl;simp only[wAC]at s;refine addOne ⟨k-1,by omega,_,a+1,_,dss.set a cur,rfl,by omega,O.trans t,s.tail.tail,by rw[wA6];exact G,by rw[wA6];exact o,λc hc=>?_⟩;by_cases e:c=a
  ·subst e;exact⟨cur,_,wAK (by omega),wAK (by omega),r7,j,i⟩
  ·rw[wAN λh=>e h.symm,wAN λh=>e h.symm];obtain⟨row,d,g,m,I,J⟩:=f c (by omega);exact⟨row,d,g,m,(I.since r).since t,J⟩
structure OrdR (u:U) (blk plc:List Nat) (dss:List (List Bool)):Prop where
 at_:∀(v b k:Nat),At u v b k->blk[v]? =some b/\plc[v]? =some k
 dom:DomR u.blocks.length (next u) dss
def orC (u:U)(vv vb vs wb wp wd:V):List V:=[.int .i64 u.func,.int .i64 u.pc,vv,vb,vs,wb,wp,wd]
variable{blk plc:List Nat}{dss:List (List Bool)}{wb wp wd:V}
theorem xN (o:OrdR u blk plc dss)(I:Hold F h cs)(i:URd F h u vv vb vs)(z:SlR eN F h blk wb)(A:SlR eN F h plc wp)(C:SlR (eL eB) F h dss wd){a b k c j:Nat}(e:At u a c j)(l:b<u.blocks.length)(hs:c=b/\j<k\/c≠b/\Domi (next u) c b)
  (H:∀h',Sn F h F h'->Hold F h' cs->Q (.bool true) h'):cP CS fq [.agg (orC u vv vb vs wb wp wd),.int .i64 a,.int .i64 b,.int .i64 k] h Q:=by
 refine rl rfl rfl ?_;unfold jX;obtain⟨J,K⟩:=o.at_ a c j e;refine kh I (by simp only[orC,ee,i.v.one,i.b.one,i.s.one,z.one,A.one,C.one];rfl) λd f g=>?_;generalize h.next=lx at*;obtain⟨l1,o1,_,D,E⟩:=(z.since g).nat J .i64;obtain⟨l2,o2,_,L,M⟩:=(A.since g).nat K .i64;have G:pLd (.ptr lx (0+5)) d=some wb:=f.ld 0 rfl rfl;have N:pLd (.ptr lx (0+6)) d=some wp:=f.ld 0 rfl rfl;have O:pLd (.ptr lx (0+7)) d=some wd:=f.ld 0 rfl rfl;have m:c<u.blocks.length:=by
  obtain⟨B,P,_⟩:=e;exact(wAB.1 P).1
 obtain ⟨row,r1,r2,r3⟩:=o.dom.2 c m;obtain⟨l3,o3,d3,_,R,S,T⟩:=(C.since g).list r1 .i64;have hq:=H d g f.tail;refine oF G (d9 D (d9 E (d9 (fF ..) ?_)));rw[show pAnd (.bool ((c:Int) == (b:Int))) (oB (pFA 6 (V.ptr lx 0)) λn=>oB (pLd n d) λp=>oB (some (V.int .i64 a)) λq=>oB (pIx 1 p q) λr=>oB (pLd r d) λt=>oB (some (V.int .i64 k)) λw=>hbin .lss 3 t w)=some (.bool (((c:Int) == (b:Int))&&decide ((j:Int)<k))) from by
  simp only[en,ed,N,L,M,j4,gv]]
 rw[fj];rcases hs with⟨rfl,U⟩|⟨U,W⟩
 ·rw[show(((c:Int) == (c:Int))&&decide ((j:Int)<k))=true by rw[wAJ];exact⟨by simp,wBF (by omega)⟩];exact d9 rfl hq
 ·have x:=(r3 b l).2 W;obtain⟨l4,o4,_,X,Y⟩:=T.bool x .i64;rw[show(((c:Int) == (b:Int))&&decide ((j:Int)<k))=false by rw[Bool.and_eq_false_iff];left;rw[wAz];omega];have y:((c:Int) != (b:Int))=true:=by rw[wCJ];omega
  refine d9 (a:= .bool true) ?_ hq;show(oB (pFA 5 (V.ptr lx 0)) λZ=>_)=_;simp only[en,ed,G,O,D,E,R,S,X,Y,ut,y];rfl
theorem CK (o:OrdR u blk plc dss)(g:Good u)(I:Hold F h cs)(e:URd F h u vv vb vs)(B:SlR eN F h blk wb)(C:SlR eN F h plc wp)(D:SlR (eL eB) F h dss wd){s b k:Nat}{fs:List Fm}(a:u.states[s]? =some fs)(p:b<u.blocks.length)(hs:∀w∈frames fs,∃c j,At u w c j/\(c=b/\j<k\/c≠b/\Domi (next u) c b))
  (H:∀F' h',Sn F h F' h'->Hold F' h' cs->Q (.bool true) h'):cP CS fM [.agg (orC u vv vb vs wb wp wd),.int .i64 s,.int .i64 b,.int .i64 k] h Q:=by
 refine ri rfl rfl ?_;unfold jZ;refine kh I (by simp only[orC,ee,e.v.one,e.b.one,e.s.one,B.one,C.one,D.one];rfl) λY E G=>?_;generalize h.next=lx at*;have J:=e.since G;obtain⟨l1,Z,f,_,K,L,_,M⟩:=J.st a;refine d9 (ed _ _ _) (oF (E.ld 0 rfl rfl) (d9 K (d9 L ?_)));refine CE E M (rV g s fs a) λm N O P R r2=>?_;have S:=vO (fs:=fs) (rV g s fs a).2;have:=(rV g s fs a).1;have q:=G.trans P
 refine pR (λr l h'=>∃i:Nat,l=[.int .i64 b,.int .i64 k,.ptr lx 0,O,.int .i64 (i:Nat)]/\i+r=(frames fs).length/\Sn F h m h'/\Sn m N m h'/\Hold m h' (cellP lx _ (orC u vv vb vs wb wp wd)::cs)) ?_ (k:=(frames fs).length)
  ⟨0,rfl,by omega,q,Sn.refl _ _,R⟩
 rintro r _ _ _ _ _ T ⟨i,⟨⟩,hk,d,n,t⟩;unfold jo;have r3:=r2.since n;refine d9 r3.len ?_;by_cases hi:i<(frames fs).length
 ·refine ltYes ?_;have U:=wAA hi;obtain⟨c,j,y,z⟩:=hs _ (wAR hi);generalize (frames fs)[i]=x at*;obtain⟨l4,o4,_,V,W⟩:=r3.nat U .i64;refine d9 (t.ldA 0 rfl rfl) (d9 V (d9 W ?_));refine xN o t (e.since d) (B.since d) (C.since d) (D.since d) y p z λh4 A X=>?_;refine⟨A.next,jE (if_t rfl ?_)⟩;exact addOne ⟨r-1,by omega,i+1,rfl,by omega,d.trans A,n.trans A,X⟩
 ·exact ltNo (H m T d t.tail)
end
