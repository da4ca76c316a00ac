/- Parts. -/
import Derived.Test.YtloecllhljfidaaGreatDoorM50
set_option maxHeartbeats 4000000
namespace Go.Proofs.YtloecllhljfidaaGreatDoor.Hx
open Un Dm
variable{az:List Int}{u:U}
def zfW(u:U):Prop:=(∀v,Unf u v)/\∀(b:Nat)(B:Bk)(n:Int),u.blocks[b]? =some B->B.fin=2->¬Kw u B.cond n
structure Pass (u:U) (c:Bool) (u1 u2:U) (az:List Int):Prop where
 zz:Good u1
 args:rM u1
 Fs:vS u u1
 func:u1.func=u.func
 pc:u1.pc=u.pc
 st:u2.eo=u.eo
 ops:∀p:Nat->Prop,p 2->(∀x∈u.ej,p x.op)->∀y∈u1.ej,p y.op
 nb:u1.blocks.length=u.blocks.length
 e:MD u1 u2
 len:az.length=u1.ej.length
 fa:Vb u1 (jy az)
 mu:mu u2<=mu u
 less:c=true->Un.mu u2<Un.mu u\/∃v x,u1.ej[v]? =some x/\x.op≠2/\stays (jy az) v=false
 same:c=false->u2=u/\u1=u/\az=GK u/\zfW u
theorem OJ{v:Nat}(h:v<u.ej.length):(GK u)[v]? =some (v:Int):=by
 unfold GK;rw[zq,wBk h];rfl
theorem yQ{v:Nat}{a:Int}(h:az[v]? =some a):jy az v=a:=by
 unfold jy;rw[CH,h];rfl
theorem AgX.pass{u1 u2:U}{c o c2 p s:Bool}{F:List Int}(A:AgX u 4 c u2 az u1 o c2 p s F):Pass u c u1 u2 az:=by
 obtain ⟨t,p1,p2,J,G,H,K,k,rfl,_,_,_,_⟩:=A;have C:F.length=u1.ej.length:=by
  cases c2 with
  |false=>rw[p1 rfl,DV,t.len]
  | true=>
    obtain⟨v,r,_,q⟩:=p2 rfl;rw[q,Lj,DV,t.len]
 have L:az.length=u1.ej.length:=J.trans C;have cas:∀v,v<u1.ej.length->jy az v=(v:Int)\/(jy az v = -1/\Z3 u1 v)\/∃r:Nat,jy az v=(r:Int)/\PhO u1 v r/\∀w,w≠v->w<u1.ej.length->jy az w=(w:Int)\/(jy az w = -1/\Z3 u1 w):=λv hv=>by
  have j:v<u.ej.length:=by rw[<-t.len];exact hv
  rcases G v with h|⟨h,l⟩
  ·cases c2 with
   | false=>
     rw[p1 rfl,OJ j]at h
     exact .inl (yQ h)
   | true=>
     obtain⟨M,r,hp,q⟩:=p2 rfl;by_cases e:v=M
     ·subst e
      rw[q,MR (by rw[DV];exact j)]at h;refine .inr (.inr ⟨r,yQ h,hp,λw N D=>?_⟩);rcases G w with h'|⟨h',l⟩
      ·rw[q,I9 λz=>N z.symm,OJ (by rw[<-t.len];exact D)]at h'
       exact .inl (yQ h')
      ·exact .inr ⟨yQ h',l⟩
     ·rw[q,I9 λz=>e z.symm,OJ j]at h
      exact .inl (yQ h)
  ·exact .inr (.inl ⟨yQ h,l⟩)
 have out:∀v,u1.ej.length<=v->jy az v = -1:=λv hv=>by
  unfold jy;rw[CH,Q9 (by omega)];rfl
 refine⟨t.zz,t.args,t.Fs,t.func,t.pc,k.e.eo.trans t.eo,t.ops,by rw[t.blocks],k.e,L,⟨out,λv r h=>?_,λv x hx=>?_⟩,Gq k.mu t.mu,λhc=>?_,λhc=>?_⟩
 ·by_cases hv:v<u1.ej.length
  ·rcases cas v hv with g|⟨g,_⟩|⟨r',g,⟨x,hx,a,d,E,_⟩,O⟩
   ·obtain rfl:r=v:=by omega
    exact h
   ·omega
   ·obtain rfl:r=r':=by omega
    obtain⟨y,i,l⟩:=t.zz.use v x hx r (by unfold gG;rw[if_pos a];exact E);rcases O r d (jo.1 i).1 with P|⟨_,Y,_,m,f,_⟩
    ·exact P
    ·rw[i]at m;cases m;rw[f]at l;cases l
  ·have:=out v (by omega);omega
 ·rcases cas v (jo.1 hx).1 with g|⟨g,y,n,i,f,hk,Q⟩|⟨r,g,⟨y,i,a,d,E,R⟩,_⟩
  ·exact .inl g
  ·rw[hx]at i;cases i;exact .inr (.inl ⟨g,f,n,hk,Q⟩)
  ·rw[hx]at i;cases i;exact .inr (.inr ⟨a,r,g,d,E,R⟩)
 ·have Z:=t.mu;have m2:=k.mu
  cases s with
  |true=>have:=k.less rfl;exact .inl (by omega)
  | false=>
    cases p with
    | true=>
      obtain⟨v,hv,h,x,n,hx,f,_⟩:=K rfl;refine .inr ⟨v,x,hx,by omega,?_⟩;unfold stays;rw[yQ h,PG]
      omega
    | false=>
      cases c2 with
      | true=>
        obtain⟨v,r,⟨x,hx,a,d,_⟩,q⟩:=p2 rfl;have hv:=(jo.1 hx).1;refine .inr ⟨v,x,hx,by omega,?_⟩;unfold stays;rw[H rfl,q,yQ (MR (by rw[DV,<-t.len];exact hv)),PG]
        omega
      | false=>
        cases o with
        |true=>have:=t.less rfl;exact .inl (by omega)
        |false=>cases hc
 ·cases s <;> cases p <;> cases c2 <;> cases o <;> first|cases hc|skip
  obtain⟨S,T⟩:=t.same rfl;obtain⟨V,W⟩:=k.same rfl;subst S;subst V;refine⟨rfl,rfl,(H rfl).trans (p1 rfl),λv x n hx=>?_,λb B n I X=>?_⟩
  ·exact T v ⟨by decide,(jo.1 hx).1⟩ x n hx
  ·exact W b B n ⟨by decide,(jo.1 I).1⟩ I X
theorem Ag.pass{u2:U}{c:Bool}(A:Ag u 4 c u2 az):∃u1,Pass u c u1 u2 az:=
 let⟨u1,_,_,_,_,_,h⟩:=A;⟨u1,AgX.pass h⟩
open Un Dm
theorem WV{n:Nat}{nx:Nat->List Nat}{seen:List Bool}{post:List Nat}(G:Iq n nx seen post []):∀m l r b,r.length<=m->post=l++b::r->∃p,Pt nx b p
 | m,l,r,b,hm,h=>by
   rcases G.early l b r h with rfl|⟨p,c,a|a⟩
   ·exact⟨_,.nil⟩
   ·obtain ⟨d,e,rfl⟩:=List.append_of_mem a
    cases m with
    |zero=>simp at hm
    | succ m=>
      let⟨q,hq⟩:=WV G m (l++b::d) e p (by simp at hm;omega) (by rw[h];simp)
      exact⟨_,.step hq c⟩
   ·cases a
section
variable{u u1 u2 w:U}{c:Bool}{az jD:List Int}{kp:Nat->Bool}{seen:List Bool}{post:List Nat}
structure Next (u:U) (c:Bool) (u':U):Prop where
 zz:Good u'
 args:rM u'
 Fs:vS u u'
 func:u'.func=u.func
 pc:u'.pc=u.pc
 ops:∀p:Nat->Prop,p 2->(∀x∈u.ej,p x.op)->∀y∈u'.ej,p y.op
 nb:u'.blocks.length<=u.blocks.length
 less:c=true->mu u' < mu u
theorem Pass.cut(p:Pass u c u1 u2 az)(G:Iq u2.blocks.length (next u2) seen post [])(C:kp=λb=>post.reverse.contains b)(d:Cut u2 kp w)(j:KQ u2 kp az jD):Ai w jD/\Next u c (gU w (jy jD)):=by
 have g:=p.zz;have hk:∀b,kp b=true↔∃l,Pt (next u2) b l:=λb=>by
  rw[C,wBZ,wBG];refine⟨λh=>?_,λ⟨l,J⟩=>O4 G J⟩
  let⟨l,r,e⟩:=List.append_of_mem h
  exact WV G _ l r b (iZ _) e
 have Gn:UK u1 kp (jy az) (jy jD):=⟨λv b k f hb=>yQ (j.gone v b k ((MW p.e).2 f) hb (by rw[p.len];exact g.iM _ _ _ f)),λv K=>by
  have:=j.same v λ⟨b,k,o,m⟩=>K ⟨b,k,(MW p.e).1 o,m⟩;unfold jy;rw[CH,CH,this]⟩
 have D:=O8 g p.e hk d Gn.gone;have H:rM w:=λv L hx=>by
  let⟨x,hx0,_⟩:=Kc g p.e d hx
  have s:u2.ej[v]? =some x:=by rw[p.e.ej];exact hx0
  by_cases h:x.op=21/\∃b k,At u2 v b k/\kp b=true
  ·let⟨o,b,k,m,M⟩:=h
   let⟨B,hB,_⟩:=id m
   let⟨A,hA,_,hp,_⟩:=FL p.e hB
   have:=d.Cd v b k x B m s o M hB;rw[hx]at this;cases this;have hlen:=(g.Cd v b k x A ((MW p.e).1 m) hx0 o hA).2;have:=p.args v x hx0;show((uT u2 kp b B.fh).map _).length<=700;rw[Er];refine Gq (Zu _ _) ?_;rw[UW,hp];omega
  ·have:=d.same v x s h;rw[hx]at this;cases this;exact p.args v L hx0
 have E:jD.length=w.ej.length:=by rw[j.len,p.len,d.len,p.e.ej]
 have t:∀v (a:Int),jD[v]? =some a->a<jD.length:=λv a h=>by
  have hv:=(jo.1 h).1;by_cases h0:0<=a
  ·have I:=yQ h
   let⟨q,b,k,f,_⟩:=OL g p.fa Gn (v:=v) (by rw[I];exact h0)
   rw[I]at q;rcases p.fa.cas v _ (gN (g.iM _ _ _ f))with o|⟨o,_⟩|⟨F,r,o,_,N,_⟩
   ·omega
   ·omega
   ·let⟨y,z,_⟩:=g.use v _ (gN (g.iM _ _ _ f)) r (by unfold gG;rw[if_pos F];exact N)
    have:=(jo.1 z).1;rw[j.len,p.len];omega
  ·omega
 refine⟨KG D H E t,X5 g p.e hk d p.fa Gn,λi y z=>?_,p.Fs.trans (Yx g p.e hk d p.fa Gn),?_,?_,λq m h y z=>?_,?_,λhc=>?_⟩
 ·obtain⟨n,x,_,hx,rfl,_⟩:=A0 D z;have:=H n x hx;unfold ir;simp only;split
  ·rw[Er];exact this
  ·exact this
 ·show w.func=u.func;rw[d.func,p.e.func,p.func]
 ·show w.pc=u.pc;rw[d.pc,p.e.pc,p.pc]
 ·let⟨i,hi⟩:=mn.1 z
  obtain⟨n,x,_,hx,rfl,_⟩:=A0 D hi
  let⟨O,hx0,sx,_⟩:=Kc g p.e d hx
  show q x.op;rw[sx.op];exact p.ops q m h O (zD hx0)
 ·show(w.blocks.map _).length<=_;have:=congrArg List.length (Re p.e d);rw[UW,Er]at this;have:=Zu kp (List.range u1.blocks.length);rw[UW]at this;have:=p.nb;rw[Er];omega
 ·let ⟨Q,P⟩:=zb6 g p.e hk d Gn.gone
  have:=p.mu;rcases p.less hc with h|⟨v,x,hx,m,hs⟩
  ·omega
  ·have:=P ⟨v,x,hx,m,?_⟩
   ·omega
   ·unfold stays at hs⊢;rw[PG]at hs⊢;intro q
    let⟨R,_⟩:=OL g p.fa Gn (v:=v) (by omega)
    omega
theorem Pass.zcb(p:Pass u c u1 u2 az):Ul u2/\Ix u2:=by
 have g:=p.zz;have sz:=AI g p.args;have j:=KO g p.args;have l:∀{b:Nat} {B:Bk},u2.blocks[b]? =some B->B.next.length<=2:=λ{b B} a=>by
  obtain⟨A,d,_,_,_,h|⟨_,n,t,_,_,h⟩⟩:=FL p.e a
  ·rw[h];exact Dh g d
  ·rw[h];simp
 refine⟨⟨by rw[p.e.ej];exact sz.nv,by rw[p.e.len];exact sz.nb,by rw[p.e.eo];exact sz.ns,λv x hx=>p.args v x (by rw[<-p.e.ej];exact hx),λb B a=>?_,λs fs hs=>sz.st s fs (by rw[<-p.e.eo];exact hs)⟩,⟨⟨by rw[p.e.len];exact g.I5,by rw[p.e.len];exact g.nb,λb t ht=>by rw[p.e.len];exact g.nx b t (O5 p.e ht),λb B a=>l a⟩,by rw[p.e.ej];exact g.nv,λv b k b' k' h h'=>g.Ao v b k b' k' ((MW p.e).1 h) ((MW p.e).1 h'),λv b k h=>by rw[p.e.ej];exact g.iM v b k ((MW p.e).1 h),λb B a=>?_,λv b k x B f hx i a=>?_,λv x hx=>p.args v x (by rw[<-p.e.ej];exact hx)⟩⟩
 ·let⟨A,d,hv,hp,_⟩:=FL p.e a
  let⟨a1,a2,_⟩:=sz.nJ b A d
  exact⟨by rw[hv];exact a1,by rw[hp];exact a2,l a⟩
 ·let⟨A,d,_,hp,_⟩:=FL p.e a
  let⟨a1,a2⟩:=j.pre b A d
  rw[hp,p.e.len];exact⟨a1,a2⟩
 ·let⟨A,d,_,hp,_⟩:=FL p.e a
  rw[hp];exact j.Cd v b k x A ((MW p.e).1 f) (by rw[<-p.e.ej];exact hx) i d
end
open Un Dm
section
variable{F F':Nat->Prop}{h h':Hp}{cs ds:List Pc}{Q:fq}{u:U}{vv vb vs jC wv wb ws:V}{az:List Int}{lf:Nat}{xs:List (Vl×V)}{bs:List (Bk×V)}{ss:List (List (Fm×V×V))}{fa fn:Nat->Option (List Nat×V)}{fl:KF->Option (List Nat×V)}
theorem st5(H:ev F h cs)(i:Nat){l ty:Nat} {a b c d e f a' b' c' d' e':V}(hi:cs[i]? =some (eJ l ty [a,b,c,d,e,f]))(j:gj [a',b',c',d',e']=true) :
  ∃h',gq 5 (.ptr l 0) (.agg [a',b',c',d',e']) h=some (.val .undef h')/\h.next<=h'.next/\ev F h' (cs.set i (eJ l ty [a',b',c',d',e',f]))/\Sn F h F h':=by
 have g:=H.ok i _ hi;exact⟨_,zaz g.1 rfl (by simp) j,iZ _,H.Au hi (lP.put _ rfl g.2.1) ⟨fY _ g.2.1,g.2.1,g.2.2⟩ λ_ h=> .inl h⟩
theorem ev.zfI(hc:YI u.ej xs fa)(hb:Yo u.blocks bs fn)(hs:CpS u.eo ss fl)(H:ev F h (fg yL gK xs wv::fg xz fJ bs wb::fg (eL Q0) lC ss ws::fU eR fa::fU eR fn::fU eR fl::cs)) :
  ∃G,ev G h (fg eV gK u.ej wv::fg eK fJ u.blocks wb::cs)/\Sn F h G h/\il (eL eF) G h u.eo ws:=by
 have Hp:=H.perm [2,3,4,5,0,1] 6 (by decide) (by decide) (by simp)
 let⟨G,g,s4,hG⟩:=Hp.N3 4
 have d:=λl i=>s4.mono l i;have m:=g.Wb 0 (E':=eV) (ys:=u.ej) rfl rfl (by rw[<-hc.fst];simp) λk x y ws hx b c=>by
  let⟨x,w⟩:=x
  rw[<-hc.fst,zq,hx]at b;cases b;obtain⟨rfl,_⟩:=c;exact⟨w,rfl,FC H 3 rfl d (hG 1 _ (by decide) rfl) (hc.row k x w hx)⟩
 have n:=m.Wb 1 (E':=eK) (ys:=u.blocks) rfl rfl (by rw[<-hb.fst];simp) λk x y ws hx b c=>by
  let⟨x,w⟩:=x
  rw[<-hb.fst,zq,hx]at b;cases b;obtain⟨bv,bp,rfl,o,ip,_⟩:=c;exact⟨bv,w,bp,rfl,o,FC H 4 rfl d (hG 2 _ (by decide) rfl) (hb.row k x w hx),ip⟩
 refine⟨G,n,s4,?_⟩;refine il.ofRow H 2 rfl d (hG 0 _ (by decide) rfl) rfl (by rw[<-hs.fst];simp) λk x y ws hx b c=>?_;rw[<-hs.fst,zq,hx]at b;cases b;obtain⟨f,rfl,p⟩:=c;refine⟨f,rfl,p.Wb rfl d (by simp) λj z y cs e b c=>?_⟩;rw[zq,e]at b;cases b
 let⟨z,a,w⟩:=z
 obtain⟨rfl,_,_⟩:=c
 let⟨q,r⟩:=hs.loc k x j z a w hx e
 exact⟨a,w,rfl,FC H 5 rfl d (hG 3 _ (by decide) rfl) q,FC H 5 rfl d (hG 3 _ (by decide) rfl) r⟩
structure zeV (u u':U):Prop where
 zz:Good u'
 args:rM u'
 Fs:vS u u'
 func:u'.func=u.func
 pc:u'.pc=u.pc
 ops:∀p:Nat->Prop,p 2->(∀x∈u.ej,p x.op)->∀y∈u'.ej,p y.op
 nb:u'.blocks.length<=u.blocks.length
 done:∃w,Good w/\zfW w/\u' = gU w (jy (GK w))
theorem zbs(g:Good u)(ha:rM u)(H0:ev F h cs)(hu:tL F h u vv vb vs)
  (H:∀F' h' u' wv wb ws,Sn F h F' h'->ev F' h' cs->tL F' h' u' wv wb ws->zeV u u'->Q (.agg (uC u' wv wb ws)) h') :
  cP CS zg [.agg (uC u vv vb vs)] h Q:=by
 refine Tl ?_;refine j4 H0 hu.one λh1 H1 s1=>pz H1 λC H2 s2=>?_;generalize h.next=l1 at*;generalize h1.next=l2 at*;have u2:=(hu.since s1).since s2;refine eh (H2.mY 1 rfl rfl) (OH g H2 u2 λF3 h3 s3 H3=>QM (iB (fP (by simp) (eh (H3.mY 1 rfl rfl) ?_))));refine Nq (AI g ha) H3 (u2.since s3) λF4 h4 wv wb ws xs bs ss fa fn fl s4 hc hb hs H4=>?_
 let⟨G,H5,s5,r5⟩:=H4.zfI hc hb hs
 refine eh (rfl) ?_;refine j4 H5 (by simp only[eQ,H5.one 0 rfl,H5.one 1 rfl,r5.one];rfl) λh6 H6 s6=>?_;generalize h4.next=lf at*;have aa:=((((s1.trans s2).trans s3).trans s4).trans s5).trans s6;obtain⟨z2,E⟩:∃z2:List V,z2=[.I 0,.I 0,.ei,.ei,.ei]:=⟨_,rfl⟩
 obtain ⟨I,hI⟩:∃I:Nat->LP,I=λk l h'=>∃(F':Nat->Prop) (u':U) (av xv xb xs:V),l=[.ptr l2 0,.ptr lf 0]/\mu u'<=k/\Sn F h F' h'/\Good u'/\rM u'/\vS u u'/\u'.func=u.func/\u'.pc=u.pc/\(∀p:Nat->Prop,p 2->(∀x∈u.ej,p x.op)->∀y∈u'.ej,p y.op)/\u'.blocks.length<=u.blocks.length/\av.one=true/\il (eL eF) F' h' u'.eo xs/\
   ev F' h' (eJ lf NG [.I u'.func,.I u'.pc,xv,xb,xs,av]::fg eV gK u'.ej xv::fg eK fJ u'.blocks xb::eJ l2 gJ z2::eJ l1 gJ (uC u vv vb vs)::cs):=⟨_,rfl⟩
 refine O3 I (λk x2 x3 h7 hi=>?_) (by
  rw[hI,E];exact⟨G,u,.ei,wv,wb,ws,rfl,iZ _,aa,g,ha,.refl _,rfl,rfl,λ_ _ h=>h,iZ _,rfl,r5.since s6,H6⟩)
 rw[hI]at hi;obtain⟨F7,u7,av,xv,xb,xs,⟨⟩,hm,s7,J,a7,d7,K,L,M,N,ab,r7,H7⟩:=hi;unfold Hj;refine zah J a7 r7.one ab H7 λF8 h8 u8 ac ad c s8 t A=>?_
 let⟨u1,p⟩:=A.pass
 let⟨sz,gc⟩:=p.zcb
 have rs:il (eL eF) F8 h8 u8.eo xs:=by rw[p.st];exact r7.since s8
 have O:ad.length=u8.ej.length:=by rw[p.len,p.e.ej]
 have P:gj (uC u8 xv xb xs)=true:=by simp only[uC,eQ,t.one 1 rfl,t.one 2 rfl,rs.one];rfl
 cases c with
 | true=>
   refine iB (fW rfl (eh pn (eh pf (eh (ld5 t 0 rfl) (oN (t.ld 0 rfl rfl) ?_)))))
   let⟨H9,D,q9⟩:=t.jc 1 rfl
   let⟨o,j,z⟩:=H9.jc 2 rfl
   have o:=o.perm [3,0,4,5] 6 (by decide) (by decide) (by simp);refine TD sz gc O (λkp w jD seen post G d a f=>(p.cut G d a f).1) o ⟨q9.since j,z,(rs.since D).since j⟩ λae ag kp w jD seen post R S ys m i G d a f T=>⟨m.next,eh pn (eh pf ?_)⟩
   let⟨_,nx⟩:=p.cut G d a f
   generalize gU w (jy jD)=r at*
   let⟨ah,ai,aj,B,s⟩:=st5 (a':= .I r.func) (b':= .I r.pc) (c':=R) (d':=S) (e':=ys) i 2 rfl (by simp only[eQ,i.one 0 rfl,i.one 1 rfl,T.one];rfl)
   rw[show gq 5 (.ptr lf (0+0)) (.agg (uC r R S ys)) ag=_ from ai,en];refine⟨aj,mu r,by have:=nx.less rfl;omega,?_⟩;rw[hI];have W:=(((s8.trans D).trans j).trans m).trans s
   exact⟨ae,r,ac,R,S,ys,rfl,iZ _,s7.trans W,nx.zz,nx.args,d7.trans nx.Fs,nx.func.trans K,nx.pc.trans L,λq C h=>nx.ops q C (M q C h),Gq nx.nb N,(t.one 3 rfl),T.since s,B.perm [2,0,1,3,4] 5 (by decide) (by decide) (by simp)⟩
 | false=>
   obtain⟨rfl,rfl,rfl,dn⟩:=p.same rfl;refine iB (fP (by simp) (eh pn (eh pf (eh (ld5 t 0 rfl) (eh pn (eh pf (eh (ld5 t 0 rfl) (Nj P (t.len 1 rfl) J.nv t λh9 ap D H9=>⟨D.next,ld5 H9 1 rfl,?_⟩))))))));have r9:=rs.since D
   let⟨o,j,z⟩:=H9.jc 2 rfl
   let⟨i,m,ak⟩:=o.jc 3 rfl
   have i:=i.perm [0,5,6] 7 (by decide) (by decide) (by simp);refine TE sz gc O (λkp w jD seen post G d a f=>(p.cut G d a f).1) i ⟨z.since m,ak,(r9.since j).since m⟩ λal ah kp w jD seen post R S ys s B G d a f X=>⟨s.next,?_⟩
   let⟨_,nx⟩:=p.cut G d a f
   have v:∀b,b<u1.blocks.length->kp b=true:=λb hb=>by
     let⟨l,hl⟩:=J.reach b hb
     rw[d,wBZ,wBG];exact O4 G hl
   obtain rfl:=a.eq J v;obtain rfl:=f.eq v;subst E
   let⟨am,an,ao,Y,Z⟩:=B.Qy 0 (n:=5) rfl rfl rfl X.one
   rw[an,en];refine⟨ao,eh (Y.mY 0 rfl rfl) ?_⟩;exact H al am _ R S ys ((((((s7.trans s8).trans D).trans j).trans m).trans s).trans Z) Y.tail.tail (X.since Z) ⟨nx.zz,nx.args,d7.trans nx.Fs,nx.func.trans K,nx.pc.trans L,λq C h=>nx.ops q C (M q C h),Gq nx.nb N,w,J,dn,rfl⟩
end
