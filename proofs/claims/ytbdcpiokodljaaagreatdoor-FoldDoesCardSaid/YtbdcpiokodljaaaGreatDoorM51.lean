/- Parts. -/
import Derived.Test.YtbdcpiokodljaaaGreatDoorM50
set_option maxHeartbeats 4000000
namespace Go.Proofs.YtbdcpiokodljaaaGreatDoor.Hx
open Un Dm
def zfH(u:U):Prop:=(∀v,Unf u v)/\∀(b:Nat)(B:Bk)(n:Int),u.blocks[b]? =some B->B.fin=2->¬Kw u B.cond n
structure Pass (u:U) (c:Bool) (u1 u2:U) (az:List Int):Prop where
 GD:Good u1
 args:AH u1
 KD:xQ u u1
 func:u1.func=u.func
 pc:u1.pc=u.pc
 st:u2.eh=u.eh
 ops:∀p:Nat->Prop,p 2->(∀x∈u.ef,p x.op)->∀y∈u1.ef,p y.op
 nb:u1.blocks.length=u.blocks.length
 e:Mn u1 u2
 len:az.length=u1.ef.length
 fa:Vs u1 (oD az)
 mu:mu u2<=mu u
 less:c=true->Un.mu u2<Un.mu u\/∃v x,u1.ef[v]? =some x/\x.op≠2/\stays (oD az) v=false
 same:c=false->u2=u/\u1=u/\az=CE u/\zfH u
theorem NC{u:U}{v:Nat}(h:v<u.ef.length):(CE u)[v]? =some (v:Int):=by
 unfold CE;rw[AX,List.getElem?_range h];rfl
theorem zj{az:List Int}{v:Nat}{a:Int}(h:az[v]? =some a):oD az v=a:=by
 unfold oD;rw[ED,h];rfl
theorem AgX.pass{u u1 u2:U}{c p c2 s C:Bool}{az G:List Int}(A:AgX u 4 c u2 az u1 p c2 s C G):Pass u c u1 u2 az:=by
 obtain ⟨t,p1,p2,K,H,I,L,l,rfl,_,_,_,_⟩:=A;have D:G.length=u1.ef.length:=by
  cases c2 with
  |false=>rw[p1 rfl,Ek,t.len]
  | true=>
    obtain⟨v,r,_,q⟩:=p2 rfl;rw[q,MC,Ek,t.len]
 have M:az.length=u1.ef.length:=K.trans D;have cas:∀v,v<u1.ef.length->oD az v=(v:Int)\/(oD az v = -1/\ZB u1 v)\/∃r:Nat,oD az v=(r:Int)/\PhO u1 v r/\∀w,w≠v->w<u1.ef.length->oD az w=(w:Int)\/(oD az w = -1/\ZB u1 w):=λv hv=>by
  have k:v<u.ef.length:=by rw[<-t.len];exact hv
  rcases H v with h|⟨h,m⟩
  ·cases c2 with
   | false=>
     rw[p1 rfl,NC k]at h
     exact .inl (zj h)
   | true=>
     obtain⟨N,r,hp,q⟩:=p2 rfl;by_cases e:v=N
     ·subst e
      rw[q,Qd (by rw[Ek];exact k)]at h;refine .inr (.inr ⟨r,zj h,hp,λw O E=>?_⟩);rcases H w with h'|⟨h',m⟩
      ·rw[q,K6 λz=>O z.symm,NC (by rw[<-t.len];exact E)]at h'
       exact .inl (zj h')
      ·exact .inr ⟨zj h',m⟩
     ·rw[q,K6 λz=>e z.symm,NC k]at h
      exact .inl (zj h)
  ·exact .inr (.inl ⟨zj h,m⟩)
 have out:∀v,u1.ef.length<=v->oD az v = -1:=λv hv=>by
  unfold oD;rw[ED,X8 (by omega)];rfl
 refine⟨t.GD,t.args,t.KD,t.func,t.pc,l.e.eh.trans t.eh,t.ops,by rw[t.blocks],l.e,M,⟨out,λv r h=>?_,λv x a=>?_⟩,Ix l.mu t.mu,λhc=>?_,λhc=>?_⟩
 ·by_cases hv:v<u1.ef.length
  ·rcases cas v hv with i|⟨i,_⟩|⟨r',i,⟨x,a,d,f,F,_⟩,P⟩
   ·obtain rfl:r=v:=by omega
    exact h
   ·omega
   ·obtain rfl:r=r':=by omega
    obtain⟨y,j,m⟩:=t.GD.use v x a r (by unfold iP;rw[if_pos d];exact F);rcases P r f (kj.1 j).1 with Q|⟨_,Z,_,o,g,_⟩
    ·exact Q
    ·rw[j]at o;cases o;rw[g]at m;cases m
  ·have:=out v (by omega);omega
 ·rcases cas v (kj.1 a).1 with i|⟨i,y,n,j,g,hk,R⟩|⟨r,i,⟨y,j,d,f,F,S⟩,_⟩
  ·exact .inl i
  ·rw[a]at j;cases j;exact .inr (.inl ⟨i,g,n,hk,R⟩)
  ·rw[a]at j;cases j;exact .inr (.inr ⟨d,r,i,f,F,S⟩)
 ·have m1:=t.mu;have m2:=l.mu
  cases C with
  |true=>have:=l.less rfl;exact .inl (by omega)
  | false=>
    cases s with
    | true=>
      obtain⟨v,hv,h,x,n,a,g,_⟩:=L rfl;refine .inr ⟨v,x,a,by omega,?_⟩;unfold stays;rw[zj h,Uf]
      omega
    | false=>
      cases c2 with
      | true=>
        obtain⟨v,r,⟨x,a,d,f,_⟩,q⟩:=p2 rfl;have hv:=(kj.1 a).1;refine .inr ⟨v,x,a,by omega,?_⟩;unfold stays;rw[I rfl,q,zj (Qd (by rw[Ek,<-t.len];exact hv)),Uf]
        omega
      | false=>
        cases p with
        |true=>have:=t.less rfl;exact .inl (by omega)
        |false=>cases hc
 ·cases C <;> cases s <;> cases c2 <;> cases p <;> first|cases hc|skip
  obtain⟨T,V⟩:=t.same rfl;obtain⟨W,X⟩:=l.same rfl;subst T;subst W;refine⟨rfl,rfl,(I rfl).trans (p1 rfl),λv x n a=>?_,λb B n J Y=>?_⟩
  ·exact V v ⟨by decide,(kj.1 a).1⟩ x n a
  ·exact X b B n ⟨by decide,(kj.1 J).1⟩ J Y
theorem Ag.pass{u u2:U}{c:Bool}{az:List Int}(A:Ag u 4 c u2 az):∃u1,Pass u c u1 u2 az:=
 let⟨u1,_,_,_,_,_,h⟩:=A;⟨u1,AgX.pass h⟩
open Un Dm
theorem Wg{n:Nat}{nx:Nat->List Nat}{seen:List Bool}{post:List Nat}(G:Iy n nx seen post []):∀(m:Nat)(l r:List Nat)(b:Nat),r.length<=m->post=l++b::r->∃p,Pt nx b p
 | m,l,r,b,hm,h=>by
   rcases G.early l b r h with rfl|⟨p,c,a|a⟩
   ·exact⟨_,.nil⟩
   ·obtain ⟨r1,d,rfl⟩:=List.append_of_mem a
    cases m with
    |zero=>simp at hm
    | succ m=>
      obtain⟨q,hq⟩:=Wg G m (l++b::r1) d p (by simp at hm;omega) (by rw[h];simp);exact⟨_,.step hq c⟩
   ·cases a
section
variable{u u1 u2 w:U}{c:Bool}{az mO:List Int}{kp:Nat->Bool}{seen:List Bool}{post:List Nat}
structure Next (u:U) (c:Bool) (u':U):Prop where
 GD:Good u'
 args:AH u'
 KD:xQ u u'
 func:u'.func=u.func
 pc:u'.pc=u.pc
 ops:∀p:Nat->Prop,p 2->(∀x∈u.ef,p x.op)->∀y∈u'.ef,p y.op
 nb:u'.blocks.length<=u.blocks.length
 less:c=true->mu u' < mu u
theorem Pass.cut(p:Pass u c u1 u2 az)(G:Iy u2.blocks.length (next u2) seen post [])(E:kp=λb=>post.reverse.contains b)(d:Cut u2 kp w)(m:My u2 kp az mO):Aw w mO/\Next u c (iz w (oD mO)):=by
 have g:=p.GD;have hk:∀b,kp b=true↔∃l,Pt (next u2) b l:=λb=>by
  rw[E,wBQ,wBH];refine⟨λh=>?_,λ⟨l,M⟩=>Ra G M⟩;obtain⟨l,r,e⟩:=List.append_of_mem h;exact Wg G _ l r b (ju _) e
 have Gn:U7 u1 kp (oD az) (oD mO):=⟨λv b k j N=>zj (m.gone v b k ((MM p.e).2 j) N (by rw[p.len];exact g.jW _ _ _ j)),λv O=>by
  have:=m.same v λ⟨b,k,t,o⟩=>O ⟨b,k,(MM p.e).1 t,o⟩;unfold oD;rw[ED,ED,this]⟩
 have F:Gd w λv=>stays (oD mO) v=true:=NO g p.e hk d Gn.gone;have J:AH w:=λv P s=>by
  obtain⟨x,f,_⟩:=JU g p.e d s;have z:u2.ef[v]? =some x:=by rw[p.e.ef];exact f
  by_cases h:x.op=21/\∃b k,At u2 v b k/\kp b=true
  ·obtain⟨t,b,k,o,Q⟩:=h;obtain⟨B,K,_⟩:=id o;obtain⟨A,R,_,hp,_⟩:=FZ p.e K;have:=d.Dz v b k x B o z t Q K;rw[s]at this;cases this;have hlen:=(g.Dz v b k x A ((MM p.e).1 o) f t R).2;have:=p.args v x f;show((tx u2 kp b B.eQ).map _).length<=700;rw[EN];refine Ix (wBD _ _) ?_;rw[UB,hp];omega
  ·have:=d.same v x z h;rw[s]at this;cases this;exact p.args v P f
 have H:mO.length=w.ef.length:=by rw[m.len,p.len,d.len,p.e.ef]
 have C:∀(v:Nat) (a:Int),mO[v]? =some a->a<mO.length:=λv a h=>by
  have hv:=(kj.1 h).1;by_cases h0:0<=a
  ·have L:=zj h;obtain⟨q,b,k,j,_⟩:=N7 g p.fa Gn (v:=v) (by rw[L];exact h0);rw[L]at q;rcases p.fa.cas v _ (hO (g.jW _ _ _ j))with t|⟨t,_⟩|⟨I,r,t,_,S,_⟩
   ·omega
   ·omega
   ·obtain⟨y,D,_⟩:=g.use v _ (hO (g.jW _ _ _ j)) r (by unfold iP;rw[if_pos I];exact S);have:=(kj.1 D).1;rw[m.len,p.len];omega
  ·omega
 refine⟨RR F J H C,Xl g p.e hk d p.fa Gn,λi y D=>?_,p.KD.trans (W6 g p.e hk d p.fa Gn),?_,?_,λq o h y D=>?_,?_,λhc=>?_⟩
 ·obtain⟨n,x,_,s,rfl,_⟩:=EF F D;have:=J n x s;unfold iF;simp only;split
  ·rw[EN];exact this
  ·exact this
 ·show w.func=u.func;rw[d.func,p.e.func,p.func]
 ·show w.pc=u.pc;rw[d.pc,p.e.pc,p.pc]
 ·obtain⟨i,hi⟩:=nT.1 D;obtain⟨n,x,_,s,rfl,_⟩:=EF F hi;obtain⟨T,f,U,_⟩:=JU g p.e d s;show q x.op;rw[U.op];exact p.ops q o h T (DQ f)
 ·show(w.blocks.map _).length<=_;have:=congrArg List.length (RA p.e d);rw[UB,EN]at this;have:=wBD kp (List.range u1.blocks.length);rw[UB]at this;have:=p.nb;rw[EN];omega
 ·obtain ⟨W,V⟩:=zaE g p.e hk d (Df:=oD mO) Gn.gone;have:=p.mu;rcases p.less hc with h|⟨v,x,s,o,hs⟩
  ·omega
  ·have:=V ⟨v,x,s,o,?_⟩
   ·omega
   ·unfold stays at hs⊢;rw[Uf]at hs⊢;intro q;obtain⟨X,_⟩:=N7 g p.fa Gn (v:=v) (by omega);omega
theorem Pass.zbA(p:Pass u c u1 u2 az):PV u2/\Ik u2:=by
 have g:=p.GD;have sz:=E4 g p.args;have l:=QZ g p.args;have m:∀{b:Nat} {B:Bk},u2.blocks[b]? =some B->B.next.length<=2:=λ{b B} a=>by
  obtain⟨A,d,_,_,_,h|⟨_,n,t,_,_,h⟩⟩:=FZ p.e a
  ·rw[h];exact AT g d
  ·rw[h];simp
 refine⟨⟨by rw[p.e.ef];exact sz.nv,by rw[p.e.len];exact sz.nb,by rw[p.e.eh];exact sz.ns,λv x f=>p.args v x (by rw[<-p.e.ef];exact f),λb B a=>?_,λs fs hs=>sz.st s fs (by rw[<-p.e.eh];exact hs)⟩,⟨⟨by rw[p.e.len];exact g.L2,by rw[p.e.len];exact g.nb,λb t o=>by rw[p.e.len];exact g.nx b t (Nk p.e o),λb B a=>m a⟩,by rw[p.e.ef];exact g.nv,λv b k b' k' h h'=>g.KZ v b k b' k' ((MM p.e).1 h) ((MM p.e).1 h'),λv b k h=>by rw[p.e.ef];exact g.jW v b k ((MM p.e).1 h),λb B a=>?_,λv b k x B i f j a=>?_,λv x f=>p.args v x (by rw[<-p.e.ef];exact f)⟩⟩
 ·obtain⟨A,d,hv,hp,_⟩:=FZ p.e a;obtain⟨a1,a2,_⟩:=sz.nV b A d;exact⟨by rw[hv];exact a1,by rw[hp];exact a2,m a⟩
 ·obtain⟨A,d,_,hp,_⟩:=FZ p.e a;obtain⟨a1,a2⟩:=l.pre b A d;rw[hp,p.e.len];exact⟨a1,a2⟩
 ·obtain⟨A,d,_,hp,_⟩:=FZ p.e a;rw[hp];exact l.Dz v b k x A ((MM p.e).1 i) (by rw[<-p.e.ef];exact f) j d
end
open Un Dm
section
variable{F F':Nat->Prop}{h h':Hp}{cs ds:List Pc}{Q:fo}{u:U}{vv vb vs mf wv wb ws:V}{az:List Int}{lf:Nat}{xs:List (Vl×V)}{bs:List (Bk×V)}{ss:List (List (Fm×V×V))}{fa fn:Nat->Option (List Nat×V)}{fl:KF->Option (List Nat×V)}
theorem st5(H:ej F h cs)(i:Nat){l ty:Nat} {a b c d e f a' b' c' d' e':V}(hi:cs[i]? =some (ey l ty [a,b,c,d,e,f]))(j:gv [a',b',c',d',e']=true) :
  ∃h',gJ 5 (.ptr l 0) (.agg [a',b',c',d',e']) h=some (.val .undef h')/\h.next<=h'.next/\ej F h' (cs.set i (ey l ty [a',b',c',d',e',f]))/\Sn F h F h':=by
 have g:=H.ok i _ hi;exact⟨_,zah g.1 rfl (by simp) j,ju _,H.DV hi (mw.put _ rfl g.2.1) ⟨gq _ g.2.1,g.2.1,g.2.2⟩ λ_ h=> .inl h⟩
theorem ej.zeU(hc:Yn u.ef xs fa)(g:Xp u.blocks bs fn)(hs:CpS u.eh ss fl)(H:ej F h (eJ yV gP xs wv::eJ wC fJ bs wb::eJ (eL QC) mb ss ws::fT ev fa::fT ev fn::fT ev fl::cs)) :
  ∃G,ej G h (eJ eV gP u.ef wv::eJ eK fJ u.blocks wb::cs)/\Sn F h G h/\ie (eL eF) G h u.eh ws:=by
 have Hp:=H.perm [2,3,4,5,0,1] 6 (by decide) (by decide) (by simp)
 let⟨G,m,s4,hG⟩:=Hp.Nl 4
 have e:=λl n=>s4.mono l n;have o:=m.Wi 0 (E':=eV) (ys:=u.ef) rfl rfl (by rw[<-hc.fst];simp) λk x y ws c b d=>by
  let⟨x,w⟩:=x
  rw[<-hc.fst,AX,c]at b;cases b;obtain⟨rfl,_⟩:=d;exact⟨w,rfl,FW H 3 rfl e (hG 1 _ (by decide) rfl) (hc.row k x w c)⟩
 have p:=o.Wi 1 (E':=eK) (ys:=u.blocks) rfl rfl (by rw[<-g.fst];simp) λk x y ws c b d=>by
  let⟨x,w⟩:=x
  rw[<-g.fst,AX,c]at b;cases b;obtain⟨bv,bp,rfl,q,ip,_⟩:=d;exact⟨bv,w,bp,rfl,q,FW H 4 rfl e (hG 2 _ (by decide) rfl) (g.row k x w c),ip⟩
 refine⟨G,p,s4,?_⟩;refine ie.ofRow H 2 rfl e (hG 0 _ (by decide) rfl) rfl (by rw[<-hs.fst];simp) λk x y ws c b d=>?_;rw[<-hs.fst,AX,c]at b;cases b;obtain⟨f,rfl,r⟩:=d;refine⟨f,rfl,r.Wi rfl e (by simp) λj z y cs i b d=>?_⟩;rw[AX,i]at b;cases b
 let⟨z,a,w⟩:=z
 obtain⟨rfl,_,_⟩:=d
 let⟨r1,s⟩:=hs.loc k x j z a w c i
 exact⟨a,w,rfl,FW H 5 rfl e (hG 3 _ (by decide) rfl) r1,FW H 5 rfl e (hG 3 _ (by decide) rfl) s⟩
structure ze4 (u u':U):Prop where
 GD:Good u'
 args:AH u'
 KD:xQ u u'
 func:u'.func=u.func
 pc:u'.pc=u.pc
 ops:∀p:Nat->Prop,p 2->(∀x∈u.ef,p x.op)->∀y∈u'.ef,p y.op
 nb:u'.blocks.length<=u.blocks.length
 done:∃w,Good w/\zfH w/\u' = iz w (oD (CE w))
theorem zbe(g:Good u)(ha:AH u)(H0:ej F h cs)(hu:zQ F h u vv vb vs)
  (H:∀F' h' u' wv wb ws,Sn F h F' h'->ej F' h' cs->zQ F' h' u' wv wb ws->ze4 u u'->Q (.agg (uC u' wv wb ws)) h') :
  cP CS Cy [.agg (uC u vv vb vs)] h Q:=by
 refine TY rfl rfl ?_;unfold Md;refine jM H0 hu.one λh1 H1 s1=>Be H1 λC H2 s2=>?_;generalize h.next=l1 at*;generalize h1.next=l2 at*;have u2:=(hu.since s1).since s2;refine ed (H2.tK 1 rfl rfl) (zaw g H2 u2 λF3 h3 s3 H3=>Nc (iJ (fU (by simp) (ed (H3.tK 1 rfl rfl) ?_))));refine QB (E4 g ha) H3 (u2.since s3) λF4 h4 wv wb ws xs bs ss fa fn fl s4 hc hb hs H4=>?_
 let⟨G,H5,s5,r5⟩:=H4.zeU hc hb hs
 refine ed (rfl) ?_;refine jM H5 (by simp only[eo,H5.one 0 rfl,H5.one 1 rfl,r5.one];rfl) λh6 H6 s6=>?_;generalize h4.next=lf at*;have aa:=((((s1.trans s2).trans s3).trans s4).trans s5).trans s6;obtain⟨z2,E⟩:∃z2:List V,z2=[.I 0,.I 0,.ee,.ee,.ee]:=⟨_,rfl⟩
 obtain ⟨I,hI⟩:∃I:Nat->LP,I=λk l h'=>∃(F':Nat->Prop) (u':U) (av xv Y xs:V),l=[.ptr l2 0,.ptr lf 0]/\mu u'<=k/\Sn F h F' h'/\Good u'/\AH u'/\xQ u u'/\u'.func=u.func/\u'.pc=u.pc/\(∀p:Nat->Prop,p 2->(∀x∈u.ef,p x.op)->∀y∈u'.ef,p y.op)/\u'.blocks.length<=u.blocks.length/\av.one=true/\ie (eL eF) F' h' u'.eh xs/\
   ej F' h' (ey lf J9 [.I u'.func,.I u'.pc,xv,Y,xs,av]::eJ eV gP u'.ef xv::eJ eK fJ u'.blocks Y::ey l2 im z2::ey l1 im (uC u vv vb vs)::cs):=⟨_,rfl⟩
 refine Oi I (λk x2 x3 h7 hi=>?_) (by
  rw[hI,E];exact⟨G,u,.ee,wv,wb,ws,rfl,ju _,aa,g,ha,.refl _,rfl,rfl,λ_ _ h=>h,ju _,rfl,r5.since s6,H6⟩)
 rw[hI]at hi;obtain⟨F7,u7,av,xv,Y,xs,⟨⟩,hm,s7,J,a7,d7,K,L,M,N,ab,r7,H7⟩:=hi;unfold GL;refine YT J a7 r7.one ab H7 λF8 h8 u8 ac ae c s8 t A=>?_
 let⟨u1,p⟩:=A.pass
 let⟨sz,gc⟩:=p.zbA
 have rs:ie (eL eF) F8 h8 u8.eh xs:=by rw[p.st];exact r7.since s8
 have O:ae.length=u8.ef.length:=by rw[p.len,p.e.ef]
 have P:gv (uC u8 xv Y xs)=true:=by simp only[uC,eo,t.one 1 rfl,t.one 2 rfl,rs.one];rfl
 cases c with
 | true=>
   refine iJ (gj rfl (ed pn (ed pf (ed (ld5 t 0 rfl) (oN (t.ld 0 rfl rfl) ?_)))))
   let⟨Z,D,q9⟩:=t.jZ 1 rfl
   let⟨o,j,z⟩:=Z.jZ 2 rfl
   have o:=o.perm [3,0,4,5] 6 (by decide) (by decide) (by simp);refine TF sz gc O (λkp w mO seen post G d a f=>(p.cut G d a f).1) o ⟨q9.since j,z,(rs.since D).since j⟩ λag ah kp w mO seen post R S ys m i G d a f r11=>⟨m.next,ed pn (ed pf ?_)⟩
   let⟨_,nx⟩:=p.cut G d a f
   generalize iz w (oD mO)=r at*
   let⟨ai,aj,ak,B,s⟩:=st5 (a':= .I r.func) (b':= .I r.pc) (c':=R) (d':=S) (e':=ys) i 2 rfl (by simp only[eo,i.one 0 rfl,i.one 1 rfl,r11.one];rfl)
   rw[show gJ 5 (.ptr lf (0+0)) (.agg (uC r R S ys)) ah=_ from aj,ei];refine⟨ak,mu r,by have:=nx.less rfl;omega,?_⟩;rw[hI];have T:=(((s8.trans D).trans j).trans m).trans s
   exact⟨ag,r,ac,R,S,ys,rfl,ju _,s7.trans T,nx.GD,nx.args,d7.trans nx.KD,nx.func.trans K,nx.pc.trans L,λq C h=>nx.ops q C (M q C h),Ix nx.nb N,(t.one 3 rfl),r11.since s,B.perm [2,0,1,3,4] 5 (by decide) (by decide) (by simp)⟩
 | false=>
   obtain⟨rfl,rfl,rfl,dn⟩:=p.same rfl;refine iJ (fU (by simp) (ed pn (ed pf (ed (ld5 t 0 rfl) (ed pn (ed pf (ed (ld5 t 0 rfl) (WB P (t.len 1 rfl) J.nv t λh9 aq D Z=>⟨D.next,ld5 Z 1 rfl,?_⟩))))))));have r9:=rs.since D
   let⟨o,j,z⟩:=Z.jZ 2 rfl
   let⟨i,m,al⟩:=o.jZ 3 rfl
   have i:=i.perm [0,5,6] 7 (by decide) (by decide) (by simp);refine Y9 sz gc O (λkp w mO seen post G d a f=>(p.cut G d a f).1) i ⟨z.since m,al,(r9.since j).since m⟩ λam ai kp w mO seen post R S ys s B G d a f r12=>⟨s.next,?_⟩
   let⟨_,nx⟩:=p.cut G d a f
   have v:∀b,b<u1.blocks.length->kp b=true:=λb hb=>by
     let⟨l,hl⟩:=J.reach b hb
     rw[d,wBQ,wBH];exact Ra G hl
   obtain rfl:=a.eq J v;obtain rfl:=f.eq v;subst E
   let⟨an,ao,ap,W,X⟩:=B.stA 0 (n:=5) rfl rfl rfl r12.one
   rw[ao,ei];refine⟨ap,ed (W.tK 0 rfl rfl) ?_⟩;exact H am an _ R S ys ((((((s7.trans s8).trans D).trans j).trans m).trans s).trans X) W.tail.tail (r12.since X) ⟨nx.GD,nx.args,d7.trans nx.KD,nx.func.trans K,nx.pc.trans L,λq C h=>nx.ops q C (M q C h),Ix nx.nb N,w,J,dn,rfl⟩
end
