/- Parts. -/
import Derived.Test.YtpfjdlicdljhaaaDoorM50
import Derived.Test.YtpfjdlicdljhaaaDoorM46
import Derived.Test.YtpfjdlicdljhaaaDoorM40
set_option maxHeartbeats 4000000
namespace Go.Proofs.YtpfjdlicdljhaaaDoor.Hx
open Un Dm
def U1(u:U):Prop:=(∀v,Yo u v)/\∀(b:Nat)(B:Bk)(n:Int),u.blocks[b]? =some B->B.fin=2->¬Kw u B.cond n
structure Pass (u:U) (c:Bool) (u1 u2:U) (az:List Int):Prop where
 yS:Good u1
 args:vZ u1
 Eb:pg u u1
 func:u1.func=u.func
 pc:u1.pc=u.pc
 st:u2.cZ=u.cZ
 ops:∀p:Nat->Prop,p 2->(∀x∈u.cR,p x.op)->∀y∈u1.cR,p y.op
 nb:u1.blocks.length=u.blocks.length
 e:EH u1 u2
 len:az.length=u1.cR.length
 fa:Mz u1 (iM az)
 mu:mu u2<=mu u
 less:c=true->Un.mu u2<Un.mu u\/∃v x,u1.cR[v]? =some x/\x.op≠2/\stays (iM az) v=false
 same:c=false->u2=u/\u1=u/\az=ke u/\U1 u
theorem Az{u:U}{v:Nat}(h:v<u.cR.length):(ke u)[v]? =some (v:Int):=by
 unfold ke;rw[w5,List.getElem?_range h];rfl
theorem oU{az:List Int}{v:Nat}{a:Int}(h:az[v]? =some a):iM az v=a:=by
 unfold iM;rw[Au,h];rfl
theorem Yh.pass{u u1 u2:U}{c s c2 C D:Bool}{az I:List Int}(A:Yh u 4 c u2 az u1 s c2 C D I):Pass u c u1 u2 az:=by
 obtain ⟨t,p1,E,M,J,K,N,m,rfl,_,_,_,_⟩:=A;have F:I.length=u1.cR.length:=by
  cases c2 with
  |false=>rw[p1 rfl,yd,t.len]
  | true=>
    obtain⟨v,r,_,q⟩:=E rfl;rw[q,Hb,yd,t.len]
 have O:az.length=u1.cR.length:=M.trans F;have VI:∀v,v<u1.cR.length->iM az v=(v:Int)\/(iM az v = -1/\QH u1 v)\/∃r:Nat,iM az v=(r:Int)/\YQ u1 v r/\∀w,w≠v->w<u1.cR.length->iM az w=(w:Int)\/(iM az w = -1/\QH u1 w):=λv k=>by
  have l:v<u.cR.length:=by rw[<-t.len];exact k
  rcases J v with h|⟨h,o⟩
  ·cases c2 with
   | false=>
     rw[p1 rfl,Az l]at h
     exact .inl (oU h)
   | true=>
     obtain⟨P,r,Q,q⟩:=E rfl;by_cases e:v=P
     ·subst e
      rw[q,HT (by rw[yd];exact l)]at h;refine .inr (.inr ⟨r,oU h,Q,λw R G=>?_⟩);rcases J w with h'|⟨h',o⟩
      ·rw[q,CL λz=>R z.symm,Az (by rw[<-t.len];exact G)]at h'
       exact .inl (oU h')
      ·exact .inr ⟨oU h',o⟩
     ·rw[q,CL λz=>e z.symm,Az l]at h
      exact .inl (oU h)
  ·exact .inr (.inl ⟨oU h,o⟩)
 have out:∀v,u1.cR.length<=v->iM az v = -1:=λv k=>by
  unfold iM;rw[Au,Sp (by omega)];rfl
 refine⟨t.yS,t.args,t.Eb,t.func,t.pc,m.e.cZ.trans t.cZ,t.ops,by rw[t.blocks],m.e,O,⟨out,λv r h=>?_,λv x a=>?_⟩,EY m.mu t.mu,λhc=>?_,λhc=>?_⟩
 ·by_cases k:v<u1.cR.length
  ·rcases VI v k with i|⟨i,_⟩|⟨r',i,⟨x,a,d,f,H,_⟩,S⟩
   ·obtain rfl:r=v:=by omega
    exact h
   ·omega
   ·obtain rfl:r=r':=by omega
    obtain⟨y,j,o⟩:=t.yS.use v x a r (by unfold fu;rw[if_pos d];exact H);rcases S r f (gL.1 j).1 with T|⟨_,y',_,p,g,_⟩
    ·exact T
    ·rw[j]at p;cases p;rw[g]at o;cases o
  ·have:=out v (by omega);omega
 ·rcases VI v (gL.1 a).1 with i|⟨i,y,n,j,g,hk,V⟩|⟨r,i,⟨y,j,d,f,H,W⟩,_⟩
  ·exact .inl i
  ·rw[a]at j;cases j;exact .inr (.inl ⟨i,g,n,hk,V⟩)
  ·rw[a]at j;cases j;exact .inr (.inr ⟨d,r,i,f,H,W⟩)
 ·have m1:=t.mu;have m2:=m.mu
  cases D with
  |true=>have:=m.less rfl;exact .inl (by omega)
  | false=>
    cases C with
    | true=>
      obtain⟨v,k,h,x,n,a,g,_⟩:=N rfl;refine .inr ⟨v,x,a,by omega,?_⟩;unfold stays;rw[oU h,QO]
      omega
    | false=>
      cases c2 with
      | true=>
        obtain⟨v,r,⟨x,a,d,f,_⟩,q⟩:=E rfl;have k:=(gL.1 a).1;refine .inr ⟨v,x,a,by omega,?_⟩;unfold stays;rw[K rfl,q,oU (HT (by rw[yd,<-t.len];exact k)),QO]
        omega
      | false=>
        cases s with
        |true=>have:=t.less rfl;exact .inl (by omega)
        |false=>cases hc
 ·cases D <;> cases C <;> cases c2 <;> cases s <;> first|cases hc|skip
  obtain⟨X,Y⟩:=t.same rfl;obtain⟨Z,q4⟩:=m.same rfl;subst X;subst Z;refine⟨rfl,rfl,(K rfl).trans (p1 rfl),λv x n a=>?_,λb B n L h2=>?_⟩
  ·exact Y v ⟨by decide,(gL.1 a).1⟩ x n a
  ·exact q4 b B n ⟨by decide,(gL.1 L).1⟩ L h2
theorem Ag.pass{u u2:U}{c:Bool}{az:List Int}(A:Ag u 4 c u2 az):∃u1,Pass u c u1 u2 az:=
 let⟨u1,_,_,_,_,_,h⟩:=A;⟨u1,Yh.pass h⟩
open Un Dm
theorem NC{n:Nat}{nx:Nat->List Nat}{seen:List Bool}{post:List Nat}(G:Bm n nx seen post []):∀(m:Nat)(l r:List Nat)(b:Nat),r.length<=m->post=l++b::r->∃p,Pt nx b p
 | m,l,r,b,hm,h=>by
   rcases G.early l b r h with rfl|⟨p,c,a|a⟩
   ·exact⟨_,.nil⟩
   ·obtain ⟨r1,d,rfl⟩:=List.append_of_mem a
    cases m with
    |zero=>simp at hm
    | succ m=>
      obtain⟨q,hq⟩:=NC G m (l++b::r1) d p (by simp at hm;omega) (by rw[h];simp);exact⟨_,.step hq c⟩
   ·cases a
section
variable{u u1 u2 w:U}{c:Bool}{az iz:List Int}{kp:Nat->Bool}{seen:List Bool}{post:List Nat}
structure Next (u:U) (c:Bool) (u':U):Prop where
 yS:Good u'
 args:vZ u'
 Eb:pg u u'
 func:u'.func=u.func
 pc:u'.pc=u.pc
 ops:∀p:Nat->Prop,p 2->(∀x∈u.cR,p x.op)->∀y∈u'.cR,p y.op
 nb:u'.blocks.length<=u.blocks.length
 less:c=true->mu u' < mu u
theorem Pass.cut(p:Pass u c u1 u2 az)(G:Bm u2.blocks.length (next u2) seen post [])(E:kp=λb=>post.reverse.contains b)(d:Cut u2 kp w)(m:Ey u2 kp az iz):ug w iz/\Next u c (ey w (iM iz)):=by
 have g:=p.yS;have hk:∀b,kp b=true↔∃l,Pt (next u2) b l:=λb=>by
  rw[E,Wg,Ta];refine⟨λh=>?_,λ⟨l,M⟩=>J8 G M⟩;obtain⟨l,r,e⟩:=List.append_of_mem h;exact NC G _ l r b (iC _) e
 have Gn:Nd u1 kp (iM az) (iM iz):=⟨λv b k j N=>oU (m.gone v b k ((E4 p.e).2 j) N (by rw[p.len];exact g.gz _ _ _ j)),λv O=>by
  have:=m.same v λ⟨b,k,t,o⟩=>O ⟨b,k,(E4 p.e).1 t,o⟩;unfold iM;rw[Au,Au,this]⟩
 have F:Gd w λv=>stays (iM iz) v=true:=Ge g p.e hk d Gn.gone;have J:vZ w:=λv P s=>by
  obtain⟨x,f,_⟩:=Cl g p.e d s;have z:u2.cR[v]? =some x:=by rw[p.e.cR];exact f
  by_cases h:x.op=21/\∃b k,At u2 v b k/\kp b=true
  ·obtain⟨t,b,k,o,Q⟩:=h;obtain⟨B,K,_⟩:=id o;obtain⟨A,R,_,S,_⟩:=zw p.e K;have:=d.xI v b k x B o z t Q K;rw[s]at this;cases this;have hlen:=(g.xI v b k x A ((E4 p.e).1 o) f t R).2;have:=p.args v x f;show((m0 u2 kp b B.c8).map _).length<=700;rw[yn];refine EY (QY _ _) ?_;rw[Kc,S];omega
  ·have:=d.same v x z h;rw[s]at this;cases this;exact p.args v P f
 have H:iz.length=w.cR.length:=by rw[m.len,p.len,d.len,p.e.cR]
 have C:∀(v:Nat) (a:Int),iz[v]? =some a->a<iz.length:=λv a h=>by
  have X:=(gL.1 h).1;by_cases h0:0<=a
  ·have L:=oU h;obtain⟨q,b,k,j,_⟩:=Gg g p.fa Gn (v:=v) (by rw[L];exact h0);rw[L]at q;rcases p.fa.VI v _ (fg (g.gz _ _ _ j))with t|⟨t,_⟩|⟨I,r,t,_,T,_⟩
   ·omega
   ·omega
   ·obtain⟨y,D,_⟩:=g.use v _ (fg (g.gz _ _ _ j)) r (by unfold fu;rw[if_pos I];exact T);have:=(gL.1 D).1;rw[m.len,p.len];omega
  ·omega
 refine⟨Jq F J H C,PI g p.e hk d p.fa Gn,λi y D=>?_,p.Eb.trans (Pb g p.e hk d p.fa Gn),?_,?_,λq o h y D=>?_,?_,λhc=>?_⟩
 ·obtain⟨n,x,_,s,rfl,_⟩:=wY F D;have:=J n x s;unfold eO;simp only;split
  ·rw[yn];exact this
  ·exact this
 ·show w.func=u.func;rw[d.func,p.e.func,p.func]
 ·show w.pc=u.pc;rw[d.pc,p.e.pc,p.pc]
 ·obtain⟨i,hi⟩:=kh.1 D;obtain⟨n,x,_,s,rfl,_⟩:=wY F hi;obtain⟨U,f,V,_⟩:=Cl g p.e d s;show q x.op;rw[V.op];exact p.ops q o h U (zD f)
 ·show(w.blocks.map _).length<=_;have:=congrArg List.length (JR p.e d);rw[Kc,yn]at this;have:=QY kp (List.range u1.blocks.length);rw[Kc]at this;have:=p.nb;rw[yn];omega
 ·obtain ⟨Y,W⟩:=TY g p.e hk d (xh:=iM iz) Gn.gone;have:=p.mu;rcases p.less hc with h|⟨v,x,s,o,hs⟩
  ·omega
  ·have:=W ⟨v,x,s,o,?_⟩
   ·omega
   ·unfold stays at hs⊢;rw[QO]at hs⊢;intro q;obtain⟨Z,_⟩:=Gg g p.fa Gn (v:=v) (by omega);omega
theorem Pass.TO(p:Pass u c u1 u2 az):K1 u2/\AX u2:=by
 have g:=p.yS;have sz:=FY g p.args;have m:=JA g p.args;have o:∀{b:Nat} {B:Bk},u2.blocks[b]? =some B->B.next.length<=2:=λ{b B} a=>by
  obtain⟨A,d,_,_,_,h|⟨_,n,t,_,_,h⟩⟩:=zw p.e a
  ·rw[h];exact xr g d
  ·rw[h];simp
 refine⟨⟨by rw[p.e.cR];exact sz.nv,by rw[p.e.len];exact sz.nb,by rw[p.e.cZ];exact sz.ns,λv x f=>p.args v x (by rw[<-p.e.cR];exact f),λb B a=>?_,λs fs hs=>sz.st s fs (by rw[<-p.e.cZ];exact hs)⟩,⟨⟨by rw[p.e.len];exact g.EE,by rw[p.e.len];exact g.nb,λb t q=>by rw[p.e.len];exact g.nx b t (GI p.e q),λb B a=>o a⟩,by rw[p.e.cR];exact g.nv,λv b k b' k' h h'=>g.CE v b k b' k' ((E4 p.e).1 h) ((E4 p.e).1 h'),λv b k h=>by rw[p.e.cR];exact g.gz v b k ((E4 p.e).1 h),λb B a=>?_,λv b k x B j f l a=>?_,λv x f=>p.args v x (by rw[<-p.e.cR];exact f)⟩⟩
 ·obtain⟨A,d,r,i,_⟩:=zw p.e a;obtain⟨a1,a2,_⟩:=sz.jB b A d;exact⟨by rw[r];exact a1,by rw[i];exact a2,o a⟩
 ·obtain⟨A,d,_,i,_⟩:=zw p.e a;obtain⟨a1,a2⟩:=m.pre b A d;rw[i,p.e.len];exact⟨a1,a2⟩
 ·obtain⟨A,d,_,i,_⟩:=zw p.e a;rw[i];exact m.xI v b k x A ((E4 p.e).1 j) (by rw[<-p.e.cR];exact f) l d
end
open Un Dm
section
variable{F F':Nat->Prop}{h h':Hp}{cs ds:List Pc}{Q:dg}{u:U}{vv vb vs gS wv wb ws:V}{az:List Int}{lf:Nat}{xs:List (Vl×V)}{bs:List (Bk×V)}{ss:List (List (Fm×V×V))}{fa fn:Nat->Option (List Nat×V)}{fl:KF->Option (List Nat×V)}
theorem st5(H:cS F h cs)(i:Nat){l ty:Nat} {a b c d e f a' b' c' d' e':V}(hi:cs[i]? =some (cV l ty [a,b,c,d,e,f]))(j:dU [a',b',c',d',e']=true) :
  ∃h',fk 5 (.ptr l 0) (.agg [a',b',c',d',e']) h=some (.val .undef h')/\h.next<=h'.next/\cS F h' (cs.set i (cV l ty [a',b',c',d',e',f]))/\Sn F h F h':=by
 have g:=H.ok i _ hi;exact⟨_,Qh g.1 rfl (by simp) j,iC _,H.xS hi (tm.put _ rfl g.2.1) ⟨ie _ g.2.1,g.2.1,g.2.2⟩ λ_ h=> .inl h⟩
theorem cS.XB(hc:Rt u.cR xs fa)(i:PT u.blocks bs fn)(hs:Uc u.cZ ss fl)(H:cS F h (cW sr dP xs wv::cW qe dm bs wb::cW (eL Kb) jJ ss ws::dk cT fa::dk cT fn::dk cT fl::cs)) :
  ∃G,cS G h (cW eV dP u.cR wv::cW eK dm u.blocks wb::cs)/\Sn F h G h/\fJ (eL eF) G h u.cZ ws:=by
 have Hp:=H.perm [2,3,4,5,0,1] 6 (by decide) (by decide) (by simp);obtain⟨G,o,m,g⟩:=Hp.LQ 4;have e:∀l,F l->G l:=λl p=>m.mono l p;have q:=o.PA 0 (E':=eV) (ys:=u.cR) rfl rfl (by rw[<-hc.fst];simp) λk x y ws c b d=>by
  obtain⟨x,w⟩:=x;rw[<-hc.fst,w5,c]at b;cases b;obtain⟨rfl,_⟩:=d;exact⟨w,rfl,ER H 3 rfl e (g 1 _ (by decide) rfl) (hc.row k x w c)⟩
 have r:=q.PA 1 (E':=eK) (ys:=u.blocks) rfl rfl (by rw[<-i.fst];simp) λk x y ws c b d=>by
  obtain⟨x,w⟩:=x;rw[<-i.fst,w5,c]at b;cases b;obtain⟨s,t,rfl,v,ip,_⟩:=d;exact⟨s,w,t,rfl,v,ER H 4 rfl e (g 2 _ (by decide) rfl) (i.row k x w c),ip⟩
 refine⟨G,r,m,?_⟩;refine fJ.ofRow H 2 rfl e (g 0 _ (by decide) rfl) rfl (by rw[<-hs.fst];simp) λk x y ws c b d=>?_;rw[<-hs.fst,w5,c]at b;cases b;obtain⟨f,rfl,A⟩:=d;refine⟨f,rfl,A.PA rfl e (by simp) λj z y cs n b d=>?_⟩;rw[w5,n]at b;cases b;obtain⟨z,a,w⟩:=z;obtain⟨rfl,_,_⟩:=d;obtain⟨r1,B⟩:=hs.loc k x j z a w c n;exact⟨a,w,rfl,ER H 5 rfl e (g 3 _ (by decide) rfl) r1,ER H 5 rfl e (g 3 _ (by decide) rfl) B⟩
structure Xb (u u':U):Prop where
 yS:Good u'
 args:vZ u'
 Eb:pg u u'
 func:u'.func=u.func
 pc:u'.pc=u.pc
 ops:∀p:Nat->Prop,p 2->(∀x∈u.cR,p x.op)->∀y∈u'.cR,p y.op
 nb:u'.blocks.length<=u.blocks.length
 done:∃w,Good w/\U1 w/\u' = ey w (iM (ke w))
theorem SX(g:Good u)(ha:vZ u)(H0:cS F h cs)(hu:zR F h u vv vb vs)
  (H:∀F' h' u' wv wb ws,Sn F h F' h'->cS F' h' cs->zR F' h' u' wv wb ws->Xb u u'->Q (.agg (uC u' wv wb ws)) h') :
  cP CS wM [.agg (uC u vv vb vs)] h Q:=by
 refine Kq rfl rfl ?_;unfold EI;refine kX H0 hu.one λh1 H1 s1=>AJ H1 λC H2 s2=>?_;generalize h.next=l1 at*;generalize h1.next=l2 at*;have u2:=(hu.since s1).since s2;refine cO (H2.zt 1 rfl rfl) (RL g H2 u2 λF3 h3 s3 H3=>IY (fK (dM (by simp) (cO (H3.zt 1 rfl rfl) ?_))));refine Oj (FY g ha) H3 (u2.since s3) λF4 h4 wv wb ws xs bs ss fa fn fl s4 hc hb hs H4=>?_;obtain⟨G,H5,s5,r5⟩:=H4.XB hc hb hs;refine cO (show _=some (V.agg [.I u.func,.I u.pc,wv,wb,ws,.cQ]) from rfl) ?_;refine kX H5 (by simp only[cY,H5.one 0 rfl,H5.one 1 rfl,r5.one];rfl) λh6 H6 s6=>?_;generalize h4.next=lf at*;have aa:=((((s1.trans s2).trans s3).trans s4).trans s5).trans s6;obtain⟨z2,K⟩:∃z2:List V,z2=[.I 0,.I 0,.cQ,.cQ,.cQ]:=⟨_,rfl⟩
 obtain ⟨I,hI⟩:∃I:Nat->LP,I=λk l h'=>∃(F':Nat->Prop) (u':U) (av xv Y xs:V),l=[.ptr l2 0,.ptr lf 0]/\mu u'<=k/\Sn F h F' h'/\Good u'/\vZ u'/\pg u u'/\u'.func=u.func/\u'.pc=u.pc/\(∀p:Nat->Prop,p 2->(∀x∈u.cR,p x.op)->∀y∈u'.cR,p y.op)/\u'.blocks.length<=u.blocks.length/\av.one=true/\fJ (eL eF) F' h' u'.cZ xs/\
   cS F' h' (cV lf CK [.I u'.func,.I u'.pc,xv,Y,xs,av]::cW eV dP u'.cR xv::cW eK dm u'.blocks Y::cV l2 fA z2::cV l1 fA (uC u vv vb vs)::cs):=⟨_,rfl⟩
 refine FN I (λk x2 x3 h7 hi=>?_) (k:=mu u) (by
  rw[hI,K];exact⟨G,u,.cQ,wv,wb,ws,rfl,iC _,aa,g,ha,.refl _,rfl,rfl,λ_ _ h=>h,iC _,rfl,r5.since s6,H6⟩)
 rw[hI]at hi;obtain⟨F7,u7,av,xv,Y,xs,⟨⟩,hm,s7,L,a7,d7,M,N,O,P,ab,r7,H7⟩:=hi;unfold Ab;refine QD L a7 r7.one ab H7 λF8 h8 u8 ac ae c s8 t A=>?_;obtain⟨u1,p⟩:=A.pass;obtain⟨sz,gc⟩:=p.TO;have rs:fJ (eL eF) F8 h8 u8.cZ xs:=by rw[p.st];exact r7.since s8
 have R:ae.length=u8.cR.length:=by rw[p.len,p.e.cR]
 have S:dU (uC u8 xv Y xs)=true:=by simp only[uC,cY,t.one 1 rfl,t.one 2 rfl,rs.one];rfl
 cases c with
 | true=>
   refine fK (ei rfl (cO pn (cO pf (cO (Vw t 0 rfl) (oN (t.ld 0 rfl rfl) ?_)))));obtain⟨Z,D,q9⟩:=t.gh 1 rfl;obtain⟨o,j,z⟩:=Z.gh 2 rfl;have o:=o.perm [3,0,4,5] 6 (by decide) (by decide) (by simp);refine Kz sz gc R (λkp w iz seen post G d a f=>(p.cut G d a f).1) o ⟨q9.since j,z,(rs.since D).since j⟩ λag ah kp w iz seen post E J ys m i G d a f Yv=>⟨m.next,cO pn (cO pf ?_)⟩
   obtain⟨_,nx⟩:=p.cut G d a f;generalize ey w (iM iz)=r at*;obtain⟨ai,aj,ak,B,s⟩:=st5 (a':= .I r.func) (b':= .I r.pc) (c':=E) (d':=J) (e':=ys) i 2 rfl (by simp only[cY,i.one 0 rfl,i.one 1 rfl,Yv.one];rfl);rw[show fk 5 (.ptr lf (0+0)) (.agg (uC r E J ys)) ah=_ from aj,cU];refine⟨ak,mu r,by have:=nx.less rfl;omega,?_⟩;rw[hI];have T:=(((s8.trans D).trans j).trans m).trans s
   exact⟨ag,r,ac,E,J,ys,rfl,iC _,s7.trans T,nx.yS,nx.args,d7.trans nx.Eb,nx.func.trans M,nx.pc.trans N,λq C h=>nx.ops q C (O q C h),EY nx.nb P,(t.one 3 rfl),Yv.since s,B.perm [2,0,1,3,4] 5 (by decide) (by decide) (by simp)⟩
 | false=>
   obtain⟨rfl,rfl,rfl,dn⟩:=p.same rfl;refine fK (dM (by simp) (cO pn (cO pf (cO (Vw t 0 rfl) (cO pn (cO pf (cO (Vw t 0 rfl) (NP S (t.len 1 rfl) L.nv t λh9 aq D Z=>⟨D.next,Vw Z 1 rfl,?_⟩))))))));have r9:=rs.since D;obtain⟨o,j,z⟩:=Z.gh 2 rfl;obtain⟨i,m,al⟩:=o.gh 3 rfl;have i:=i.perm [0,5,6] 7 (by decide) (by decide) (by simp);refine Qq sz gc R (λkp w iz seen post G d a f=>(p.cut G d a f).1) i ⟨z.since m,al,(r9.since j).since m⟩ λam ai kp w iz seen post E J ys s B G d a f Yx=>⟨s.next,?_⟩
   obtain ⟨_,nx⟩:=p.cut G d a f;have v:∀b,b<u1.blocks.length->kp b=true:=λb hb=>by
     obtain⟨l,hl⟩:=L.reach b hb;rw[d,Wg,Ta];exact J8 G hl
   obtain rfl:=a.eq L v;obtain rfl:=f.eq v;subst K;obtain⟨an,ao,ap,W,X⟩:=B.T7 0 (ws:=uC (ey w (iM (ke w))) E J ys) (n:=5) rfl rfl rfl Yx.one;rw[ao,cU];refine⟨ap,cO (W.zt 0 rfl rfl) ?_⟩;exact H am an _ E J ys ((((((s7.trans s8).trans D).trans j).trans m).trans s).trans X) W.tail.tail (Yx.since X) ⟨nx.yS,nx.args,d7.trans nx.Eb,nx.func.trans M,nx.pc.trans N,λq C h=>nx.ops q C (O q C h),EY nx.nb P,w,L,dn,rfl⟩
end
open Un Dm
theorem Ns{n:Int}(h:zS .u64 n):kK (nX n)=n:=by
 simp only[zS]at h;unfold kK nX;split <;> omega
theorem L0{u:U}{v:Nat}(h:v<u.cR.length):stays (iM (ke u)) v=true:=by
 unfold stays;rw[oU (Az h),beq_self_eq_true]
theorem NL{w:U}(g:Good w){a:Nat}{x:Vl}(c:w.cR[a]? =some x):(ey w (iM (ke w))).cR[nm w (iM (ke w)) a]? =some (eO w (iM (ke w)) x):=by
 have b:=(gL.1 c).1;have hs:=L0 b;have d:a∈de w (iM (ke w)):=(OK g).2 ⟨b,hs⟩;have e:iM (ke w) a=(a:Int):=oU (Az b);have f:px (iM (ke w)) (w.cR.length+1) a=a:=by
  unfold px;rw[if_neg (by omega)]
 have:nm w (iM (ke w)) a=(de w (iM (ke w))).idxOf a:=by
  unfold nm;rw[f,if_pos d]
 rw[this];exact GR (yG d) c
structure Leaves (u:U):Prop where
 cR:∀(i:Nat) (y:Vl),u.cR[i]? =some y->3<=y.op->y.op<=14->∃a∈fu y,∃z,u.cR[a]? =some z/\z.op≠2
 ends:∀(b:Nat) (B:Bk),u.blocks[b]? =some B->B.fin=2->∃z,u.cR[B.cond]? =some z/\z.op≠2
theorem KK{w:U}(g:Good w)(d:U1 w):Leaves (ey w (iM (ke w))):=by
 refine⟨λi y s k f=>?_,λb B u l=>?_⟩
 ·obtain ⟨n,x,E,o,rfl,_⟩:=wY g s;have k:3<=x.op:=k;have f:x.op<=14:=f;have v:∃a∈fu x,∃z,w.cR[a]? =some z/\z.op≠2:=by
   refine Classical.byContradiction λhc=>?_;have kn:∀a∈fu x,∃z,w.cR[a]? =some z/\z.op=2:=λa m=>by
    obtain⟨z,h,_⟩:=g.use n x o a m;exact⟨z,h,Classical.byContradiction λq=>hc ⟨a,m,z,h,q⟩⟩
   rcases A6 k f with⟨c,e⟩|⟨c,e⟩
   ·obtain⟨z,h,j⟩:=kn x.a (by rw[e];simp);exact d.1 n x _ o ⟨k,f,kK z.n,0,⟨z,h,j,rfl⟩,λq=>(q c).elim,Ns (DT _ _ _)⟩
   ·obtain⟨z,h,j⟩:=kn x.a (by rw[e];simp);obtain⟨t,C,D⟩:=kn x.b (by rw[e];simp);exact d.1 n x _ o ⟨k,f,kK z.n,kK t.n,⟨z,h,j,rfl⟩,λ_=>⟨t,C,D,rfl⟩,Ns (DT _ _ _)⟩
  obtain⟨a,m,z,h,p⟩:=v;exact⟨nm w _ a,by rw[MR];exact W3 m,_,NL g h,p⟩
 ·obtain⟨A,r,rfl⟩:=yv u;have l:A.fin=2:=l;rcases g.fin b A r with⟨q,_⟩|⟨_,_,z,h,_⟩|⟨q,_⟩
  ·omega
  ·refine⟨_,by rw[show(iG w (iM (ke w)) A).cond=nm w (iM (ke w)) A.cond from if_pos l];exact NL g h,λj=>?_⟩;have j:z.op=2:=j;exact d.2 b A (kK z.n) r l ⟨z,h,j,rfl⟩
  ·omega
section
variable{F F':Nat->Prop}{h h':Hp}{cs ds:List Pc}{Q:dg}
end
open Un Dm
structure oZ (vs:List Vl) (want:List Int):Prop where
 len:want.length=vs.length
 le:vs.length<=33
 op:∀(v:Nat) (x:Vl),vs[v]? =some x->x.op=2\/3<=x.op/\x.op<=14/\x.a<v/\x.b<v
 args:∀(v:Nat) (x:Vl),vs[v]? =some x->x.args=[]
 val:∀(v:Nat) (x:Vl),vs[v]? =some x->want.getD v 0=if x.op=2 then kK x.n else uV x.op (want.getD x.a 0) (want.getD x.b 0)
def Ei(n:Nat):Bk:=⟨List.range n,3,0,[],[],0⟩
def G5(vs:List Vl):U:=⟨0,0,vs,[Ei vs.length],[[⟨0,0,List.range vs.length,[]⟩]]⟩
section
variable{vs:List Vl}{want:List Int}{u:U}{B:Bk}
theorem Ju(a:u.blocks=[B]){v b k:Nat}(h:At u v b k):b=0/\B.cR[k]? =some v:=by
 obtain⟨C,c,d⟩:=h;rw[a]at c;cases b <;> simp_all
theorem Lg(a:u.blocks=[B]){w k:Nat}(h:vQ u w 0 k):∃j,j<k/\B.cR[j]? =some w:=by
 obtain⟨c,j,b,e⟩:=h;obtain⟨rfl,d⟩:=Ju a b;exact⟨j,by omega,d⟩
theorem oZ.PW(c:oZ vs want){v:Nat}{x:Vl}(a:vs[v]? =some x):2<=x.op/\x.op<=14:=by
 have:=c.op v x a;omega
theorem oZ.use(c:oZ vs want){v:Nat}{x:Vl}(b:vs[v]? =some x){w:Nat}(a:w∈fu x):w<v:=by
 rcases c.op v x b with h|⟨d,f,g,i⟩
 ·rw[show fu x=[] by simp[fu,h,two,om]]at a;cases a
 ·rcases A6 d f with⟨_,e⟩|⟨_,e⟩ <;> rw[e]at a <;> simp at a <;> omega
theorem uI{v b k:Nat}:At (G5 vs) v b k↔b=0/\k=v/\v<vs.length:=by
 constructor
 ·intro h;obtain⟨rfl,h0⟩:=Ju rfl h;obtain⟨a,c⟩:=gL.1 h0;simp only[Ei,Kc,List.getElem_range]at a c;omega
 ·rintro⟨rfl,rfl,h⟩;exact⟨_,rfl,by simp[Ei,h]⟩
theorem oZ.BO(c:oZ vs want){v:Nat}(b:v<vs.length):jo (G5 vs) v:=by
 have a:=fg b;refine⟨_,a,?_⟩;have:=c.PW a;simp only[Un.BO,Ie,zv];exact .inl (by omega)
theorem Gu(c:oZ vs want):Good (G5 vs) where
 nv:=by have:=c.le;show vs.length<=3000;omega
 EE:=iC 1
 nb:=by show 1<=300;omega
 ns:=by show 1<=1000;omega
 st:=λs fs h=>by
  have l:=c.le
  cases s with
  |succ s=>cases h
  | zero=>
    cases h;refine⟨iC _,by simp,λf i=>?_⟩;rw[Ut]at i;subst i;exact⟨by simp only[Kc];omega,by simp,λv g=>c.BO (Mv.1 g),λv g=>by cases g⟩
 yx:=λv h _=>⟨0,v,uI.2 ⟨rfl,rfl,h⟩⟩
 CE:=λv b k b' k' j e=>by
  have:=uI.1 j;have:=uI.1 e;omega
 gz:=λv b k h=>(uI.1 h).2.2
 wo:=λv w b k x y _ _ a _ h=>by
  have:=c.PW a;simp only[fm,Ie,CG]at h;omega
 par:=λv b k x _ a h=>by have:=c.PW a;omega
 xI:=λv b k x _ _ a h=>by have:=c.PW a;omega
 op:=λv x a=>by have:=c.PW a;omega
 use:=λv x a w d=>c.BO (Nat.lt_trans (c.use a d) (gL.1 a).1)
 leave:=λv x a h=>by
  have:=c.PW a;simp only[leaves,Ie,CG]at h;omega
 putAt:=λv x a h=>by have:=c.PW a;omega
 param:=λv x a h=>by have:=c.PW a;omega
 fin:=λb B h=>by
  cases b with
  |succ b=>cases h
  |zero=>cases h;exact .inr (.inr ⟨rfl,rfl,Ls 0⟩)
 nx:=λb t h=>by
  cases b <;> cases h
 c8:=λb B h=>by
  cases b with
  |succ b=>cases h
  |zero=>cases h;rfl
 uG:=rfl
 GJ:=λb B h e=>by
  cases b with
  |succ b=>cases h
  |zero=>cases h;cases e
 reach:=λb h=>by
  obtain rfl:b=0:=by have:b<1:=h;omega
  exact⟨[0],.nil⟩
 uN:=λv b k x h a _ w d=>by
  obtain⟨rfl,rfl,h⟩:=uI.1 h;have:=c.use a d;exact⟨0,w,uI.2 ⟨rfl,rfl,by omega⟩,.inl ⟨rfl,this⟩⟩
 xo:=λv b k x B _ a h=>by have:=c.PW a;omega
 Ad:=λv b k x fs _ a h=>by
  have:=c.PW a;simp only[leaves,Ie,CG]at h;omega
 xQ:=λb B h e=>by
  cases b with
  |succ b=>cases h
  |zero=>cases h;cases e
 zl:=λb B fs h _ hs w d=>by
  cases b with
  |succ b=>cases h
  | zero=>
    cases h;cases hs;simp only[ff,Zs,List.flatMap_nil,GK,Mv]at d;exact⟨0,w,uI.2 ⟨rfl,rfl,d⟩,lE.self _ _⟩
theorem IL(g:Good u)(r:u.blocks=[B])(i:∀(v:Nat)(x:Vl),u.cR[v]? =some x->2<=x.op/\x.op<=14){word:Nat->Int}
  (y:∀(v:Nat) (x:Vl),u.cR[v]? =some x->word v=if x.op=2 then kK x.n else uV x.op (word x.a) (word x.b)) (D:B.cR.length<=3000) :
  ∀(l:List Nat) (k:Nat) (s:Rs),B.cR.drop k=l->k+l.length=B.cR.length->s.val.length=u.cR.length->s.heap=[]->s.steps=k->(∀j v,j<k->B.cR[j]? =some v->s.of v=word v)->
  ∃s',tG u (-1) 5000 l s = .inr s'/\s'.steps=B.cR.length/\s'.heap=[]/\∀(j v:Nat),B.cR[j]? =some v->s'.of v=word v
 |[],k,s,_,o,_,hh,RX,hv=>⟨s,rfl,by simp at o;omega,hh,λj v h=>hv j v (by have:=(gL.1 h).1;simp at o;omega) h⟩
 | n ::l,k,s,z,o,E,hh,RX,hv=>by
   simp only[LU]at o;have A:B.cR[k]? =some n:=by
     have:(B.cR.drop k)[0]? =some n:=by rw[z];rfl
     rwa [V1]at this
   have m:At u n 0 k:=⟨B,by rw[r];rfl,A⟩
   have t:=g.gz _ _ _ m;have p:=fg t;generalize u.cR[n]=x at*;have F:=i n x p;have q:∀w∈fu x,s.of w=word w:=λw G=>by
     obtain⟨j,C,f⟩:=Lg r (g.uN n 0 k x m p (by omega) w G);exact hv j w C f
   have e:HU x s.of s.heap=word n:=by
     rw[y n x p];unfold HU;by_cases c:x.op=2
     ·rw[if_pos c,if_pos c]
     ·rw[if_neg c,if_neg c,if_neg (by omega),if_neg (by omega),if_neg (by omega),if_neg (by omega)]
      rcases A6 (x:=x) (by omega) F.2 with⟨c,e⟩|⟨c,e⟩ <;> rw[e]at q
      ·rw[if_pos (by omega),q x.a (by simp)]
       rcases c with c|c <;> rw[c] <;> rfl
      ·rw[if_neg (by omega),q x.a (by simp),q x.b (by simp)]
   have H:tG u (-1) 5000 (n::l) s=tG u (-1) 5000 l {s with val:=s.val.set n (word n),steps:=s.steps+1}:=by
     have I:tk u (-1) n x s = .inr {s with val:=s.val.set n (word n),steps:=s.steps+1}:=by
       unfold tk;rw[if_neg (by omega),if_neg (by omega),if_neg (by omega),if_neg (by omega),e]
     rw[tG,if_neg (by omega),p];simp only[I]
   rw[H];refine IL g r i y D l (k+1) _ ?_ (by omega) (by simp[E]) hh (by simp[RX]) λj v C f=>?_
   ·rw[<-List.tail_drop,z];rfl
   ·show (s.val.set n (word n)).getD v 0=word v
    rw[uY (by omega)];by_cases c:v=n
    ·rw[if_pos c,c]
    ·rw[if_neg c]
     refine hv j v ?_ f;by_cases d:j=k
     ·subst d;rw[A]at f;cases f;exact absurd rfl c
     ·omega
theorem run_pure(g:Good u)(m:u.blocks=[B])(p:B.fin=3)(e:∀(v:Nat)(x:Vl),u.cR[v]? =some x->2<=x.op/\x.op<=14){word:Nat->Int}
  (d:∀(v:Nat) (x:Vl),u.cR[v]? =some x->word v=if x.op=2 then kK x.n else uV x.op (word x.a) (word x.b)) {fs:List Fm} (hs:u.cZ[B.state]? =some fs) :
  ∃n,runM u [] (-1) 5000 5001 none 0 (kW u []) = .left n (fs.map λf=>⟨f.func,f.pc,f.locals.map word,f.stack.map word⟩) []:=by
 have i:u.blocks[0]? =some B:=by rw[m];rfl
 have r:B.cR.length<=3000:=by
  refine EY (gq u.cR.length B.cR (En g i) λv s=>?_) g.nv;obtain⟨k,hk⟩:=kh.1 s;exact g.gz v 0 k ⟨B,i,hk⟩
 have q:∀v,dK u v=false:=λv=>by
  unfold dK
  cases hx:u.cR[v]? with
  |none=>rfl
  | some x=>
    have:=e v x hx;simp only[fm,Bool.or_eq_false_iff,QO];omega
 have t:B.cR.dropWhile (dK u)=B.cR:=by
  cases B.cR with
  |nil=>rfl
  |cons a l=>rw[List.dropWhile_cons_of_neg (by simp[q a])]
 have y:jR u [] none B (kW u [])=kW u []:=by
  have:B.cR.takeWhile (dK u)=[]:=by
   cases B.cR with
   |nil=>rfl
   |cons a l=>rw[List.takeWhile_cons_of_neg (by simp[q a])]
  unfold jR;simp only[this];rfl
 obtain⟨s',r1,C,r3,z⟩:=IL g m e d r B.cR 0 (kW u []) rfl (by omega) (by simp[kW]) rfl rfl λj v D=>by omega
 refine ⟨s'.steps+1,?_⟩;rw[runM,i];simp only[t,y,r1];rw[if_neg (by omega),if_pos p];unfold uH;rw[hs,r3];simp only[VN];congr 1;refine MU λf A=>?_;have h:∀w,w∈f.locals++f.stack->s'.of w=word w:=λw d=>by
  obtain⟨c,j,o,_⟩:=g.zl 0 B fs i p hs w (Sf.2 ⟨f,A,d⟩);exact z j w (Ju m o).2
 congr 1
 ·exact MU λw d=>h w (PM _ d)
 ·exact MU λw d=>h w (List.mem_append_right _ d)
theorem MX{vs:List Vl}{want:List Int}(c:oZ vs want)(g:Good u)(nb:u.blocks.length<=1)(ops:∀y∈u.cR,2<=y.op/\y.op<=14)
  (L:∀(i:Nat) (y:Vl),u.cR[i]? =some y->3<=y.op->y.op<=14->∃a∈fu y,∃z,u.cR[a]? =some z/\z.op≠2) (d:pg (G5 vs) u) :
  ∃B fs f,u.blocks=[B]/\B.fin=3/\u.cZ[B.state]? =some fs/\fs[0]? =some f/\f.locals.length=want.length/\∀(i v:Nat),f.locals[i]? =some v->∃z,u.cR[v]? =some z/\z.op=2/\want[i]? =some (kK z.n):=by
 obtain ⟨B,o⟩:∃B,u.blocks=[B]:=by
  have:=g.EE
  match u.blocks,nb,this with
  |[B],_,_=>exact⟨B,rfl⟩
 have E:u.blocks[0]? =some B:=by rw[o];rfl
 have F:next u 0=[]:=by
  have h0:next u 0=B.next:=by unfold next;rw[E]
  cases hn:B.next with
  |nil=>rw[h0,hn]
  | cons t l=>
    have M:t∈next u 0:=by rw[h0,hn];simp
    have J:=g.nx 0 t M;have r:=g.uG;have:t=0:=by rw[o]at J;simp at J;omega
    subst this;unfold Un.ahead at r;rw[o]at r;simp[gF,hn]at r
 have w:B.next=[]:=by
  have h0:next u 0=B.next:=by unfold next;rw[E]
  rw[<-h0];exact F
 have G:B.fin=3/\B.state<u.cZ.length:=by
  rcases g.fin 0 B E with⟨_,q⟩|⟨_,q,_⟩|⟨h,_,q⟩
  ·rw[w]at q;cases q
  ·rw[w]at q;cases q
  ·exact⟨h,q⟩
 have A:∀(v:Nat) (x:Vl),u.cR[v]? =some x->2<=x.op/\x.op<=14:=λv x m=>ops x (zD m);have hk:∀(k v:Nat) (x:Vl),B.cR[k]? =some v->u.cR[v]? =some x->x.op=2:=by
  intro k
  induction k using Nat.strongRecOn with
  | _ k N=>
    intro v x C m;refine Classical.byContradiction λO=>?_;have P:=A v x m;obtain⟨a,Q,z,D,R⟩:=L v x m (by omega) P.2;obtain⟨j,S,H⟩:=Lg o (g.uN v 0 k x ⟨B,E,C⟩ m (by omega) a Q);exact R (N j S a z H D)
 have r:∀(v:Nat) (x:Vl),u.cR[v]? =some x->x.op=2:=λv x m=>by
  obtain⟨b,k,I⟩:=g.yx v (gL.1 m).1 trivial;exact hk k v x (Ju o I).2 m
 have hs:=fg G.2;generalize u.cZ[B.state]=fs at*;obtain⟨n,e⟩:=run_pure (word:=λv=>match u.cR[v]? with|some x=>kK x.n|none=>0) g o G.1 A (λv x m=>by simp only[m];rw[if_pos (r v x m)]) hs;obtain⟨U,e'⟩:=run_pure (word:=λv=>want.getD v 0) (Gu c) (B:=Ei vs.length) rfl rfl (λv x m=>c.PW m) c.val (fs:=[⟨0,0,List.range vs.length,[]⟩]) rfl;have K:=d [] (-1) 5000 5001 [];rw[e,e']at K;obtain⟨_,p,_⟩:=K;simp only[PR,OG]at p;obtain⟨f,rfl⟩:∃f,fs=[f]:=List.length_eq_one_iff.1 (by simpa using congrArg List.length p);simp only[PR,OG,List.cons.injEq,Fw.mk.injEq,and_true]at p;obtain⟨_,_,p,_⟩:=p;have hlen:f.locals.length=want.length:=by
  have:=congrArg List.length p;simp only[yn,Kc]at this;rw[this,c.len]
 refine⟨B,[f],f,o,G.1,hs,rfl,hlen,λi v C=>?_⟩;have T:jo u v:=((g.st _ _ hs).2.2 f (by simp)).2.2.1 v (zD C);obtain⟨z,D,_⟩:=T;refine⟨z,D,r v z D,?_⟩;have hi:i<want.length:=by rw[<-hlen];exact(gL.1 C).1
 have s:=congrArg (λl:List Int=>l[i]?) p;simp only[w5,C,Option.map_some,D]at s;rw[List.getElem?_range (by rw[<-c.len];exact hi)]at s;simp only[Option.map_some,Option.some.injEq,Au]at s;rw[fg hi]at s⊢;simp only[VN]at s;rw[s]
end
open Un Dm
abbrev RN:Nat:=34
section
variable{vs:List Vl}{want:List Int}
theorem oZ.nil:oZ [] []:=⟨rfl,by simp,by simp,by simp,by simp⟩
theorem Av{l a:List Int}{i:Nat}(h:i<l.length):(l++a).getD i 0=l.getD i 0:=by
 simp[Au,TN h]
theorem oZ.snoc(c:oZ vs want)(h:vs.length<33){x:Vl}{w:Int}(g:x.op=2\/3<=x.op/\x.op<=14/\x.a<vs.length/\x.b<vs.length)(j:x.args=[])(k:w=if x.op=2 then kK x.n else uV x.op (want.getD x.a 0) (want.getD x.b 0)):oZ (vs++[x]) (want++[w]):=by
 have i:=c.len;have hs:∀(v:Nat) (y:Vl),(vs++[x])[v]? =some y->(vs[v]? =some y/\v<vs.length)\/(v=vs.length/\y=x):=λv y d=>by
  by_cases e:v<vs.length
  ·rw[TN e]at d;exact .inl ⟨d,e⟩
  ·rw[Se (by omega)]at d;by_cases l:v=vs.length
   ·subst l;simp at d;exact .inr ⟨rfl,d.symm⟩
   ·rw[Sp (by simp;omega)]at d;cases d
 refine⟨by simp[i],by simp;omega,λv y d=>?_,λv y d=>?_,λv y d=>?_⟩
 ·rcases hs v y d with⟨f,_⟩|⟨rfl,rfl⟩
  ·exact c.op v y f
  ·exact g
 ·rcases hs v y d with⟨f,_⟩|⟨rfl,rfl⟩
  ·exact c.args v y f
  ·exact j
 ·rcases hs v y d with⟨f,q⟩|⟨rfl,rfl⟩
  ·rw[Av (by omega),c.val v y f];rcases c.op v y f with e|⟨m,_,o,p⟩
   ·rw[if_pos e,if_pos e]
   ·rw[if_neg (by omega),if_neg (by omega),Av (by omega),Av (by omega)]
  ·rw[show(want++[w]).getD vs.length 0=w by simp[Au,i],k];rcases g with e|⟨m,_,o,p⟩
   ·rw[if_pos e,if_pos e]
   ·rw[if_neg (by omega),if_neg (by omega),Av (by omega),Av (by omega)]
end
section
variable{F F':Nat->Prop}{h h':Hp}{cs ds:List Pc}{Q:dg}{u:U}{vv vb vs:V}
theorem MI{α:Type}{E:oY α}{ty wF ic sz i:Nat}{xs:List α}{v z w:V}{y:α}{d:List V}{K:dg}(H:cS F h cs)(hi:cs[i]? =some (cW E ty xs v))(g:E.sz=sz)(h0:0<sz)(j:oX wF sz 1 z [(0,w)]=some (.cells wF sz true false d,λl=> .slice l 0 1))(k:E.rel F h y d)(m:ic<=1000)(n:xs.length<1000000)
  (o:∀b h',b.one=true->Sn F h F h'->cS F h' (cs.set i (cW E ty (xs++[y]) b))->K b h'):gJ (oX wF sz 1 z [(0,w)]) h λa p=>dz (c9 ty sz ic v a p) K:=by
 subst g;rw[j,dC];obtain⟨b,h',e,_,f,q⟩:=H.Cq i hi (ic:=ic) (wF:=wF) (ro:=false) k h0 m n;rw[e,cU];have c:i<cs.length:=(gL.1 hi).1;exact o b h' (f.one i (HT c)) q f
theorem Fa{α:Type}{E:oY α}{ty wF ic sz i j l T k:Nat}{ws:List V}{xs:List α}{v z w:V}{y:α}{f:List V}{K:Hp->Prop}(H:cS F h cs)(hi:cs[i]? =some (cW E ty xs v))(m:cs[j]? =some (cV l T ws))(d:i≠j)(hk:k<ws.length)(n:E.sz=sz)(h0:0<sz)(q:oX wF sz 1 z [(0,w)]=some (.cells wF sz true false f,λl=> .slice l 0 1))(r:E.rel F h y f)(s:ic<=1000)(t:xs.length<1000000)
  (x:∀c h',Sn F h F h'->cS F h' ((cs.set i (cW E ty (xs++[y]) c)).set j (cV l T (ws.set k c)))->K h'):gJ (oX wF sz 1 z [(0,w)]) h λa A=>dz (c9 ty sz ic v a A) λb g=>oP (dE k (.ptr l 0)) λp=>dz (fk 1 p b g) λ_ e=>K e:=by
 refine MI H hi n h0 q r s t λc g one B C=>cO pf ?_;obtain⟨e,D,_,G,I⟩:=C.st j (o:=k) (u:=c) (by rw[CL d];exact m) hk one;rw[yD,D,cU];exact x c e (B.trans I) G
theorem MM{α:Type}{E:oY α}{T sz:Nat}{z w:List V}{y:α}{K:dg}(H:cS F h cs)(hs:E.sz=sz)(b:z.length=sz)(a:E.rel F h y w)(c:∀F' h' l,Sn F h F' h'->cS F' h' cs->fJ E F' h' [y] (.slice l 0 1)->K (.slice l 0 1) h'):gJ (oX T sz 1 (.agg z) [(0,.agg w)]) h K:=by
 subst hs;rw[qv b (E.len a) (E.one a),dC];obtain⟨d,e,r1⟩:=H.Ou (E:=E) (xs:=[y]) (ws:=w) (n:=1) T rfl ⟨w,[],by rw[GK],a,trivial⟩ false;exact c _ _ _ e d r1
theorem Rf{j l T k:Nat}{ws:List V}{w:V}{K:Hp->Prop}(H:cS F h cs)(a:cs[j]? =some (cV l T ws))(hk:k<ws.length)(b:w.one=true)(c:∀h',Sn F h F h'->cS F h' (cs.set j (cV l T (ws.set k w)))->K h'):oP (dE k (.ptr l 0)) λp=>dz (fk 1 p w h) λ_ h'=>K h':=by
 refine cO pf ?_;obtain⟨d,e,_,f,g⟩:=H.st j (o:=k) (u:=w) a hk b;rw[yD,e,cU];exact c d g f
theorem MQ(H:Q (.bool true) h):cP CS kE [] h Q:=by
 obtain⟨fn,c,a,b⟩:=Hj;exact cP.known a b (show CS.K kE [] h=some (.bool true) from rfl) rfl rfl H
theorem KN{want:List Int}{lu t w:Nat}{wv d:V}{lo:List Nat}(E:lo.length<=40)(g:cS F h (cV lu t (uC u vv vb vs)::cW (eI .u64) w want wv::cs))(x:zR F h u vv vb vs)(b:fJ eN F h lo d)(hlen:lo.length=want.length)(c:∀(i v:Nat),lo[i]? =some v->∃z,u.cR[v]? =some z/\z.op=2/\want[i]? =some (kK z.n))(H:∀h',Q (.bool true) h') :
  ir CS Q [wv,.ptr lu 0,d,.I 0] h:=by
 refine sB (λk l h'=>∃i:Nat,l=[wv,.ptr lu 0,d,.I (i:Nat)]/\i+k=lo.length/\h' = h) ?_ (k:=lo.length) ⟨0,rfl,by omega,rfl⟩;rintro k _ _ _ _ j ⟨i,⟨⟩,hk,rfl⟩;unfold kq;have m:df (.ptr lu (0+2)) j=some vv:=g.ld 0 rfl rfl;refine cO b.len ?_;by_cases hi:i<lo.length;rotate_left
 ·exact fq (H j)
 refine dZ ?_;have o:=fg hi;generalize lo[i]=v at*;obtain⟨z,y,A,e⟩:=c i v o;obtain⟨l3,G,_,p1,p⟩:=b.nat o .i64;obtain⟨l4,I,J,_,q,_,_,r⟩:=x.val y;obtain⟨f,e⟩:=gL.1 e;obtain⟨l5,K,B,C,D,s⟩:=g.Np 1 rfl f .i64 rfl;obtain⟨rfl⟩:B = .int .u64 (kK z.n):=by rw[e]at s;simpa using s.1
 refine oF m (cO p1 (cO p (cO q (oF r.op (cO (a:= .bool false) ?_ (cO (a:= .bool false) ?_ (fK (dM (by simp) (du ⟨k-1,by omega,i+1,rfl,by omega,rfl⟩)))))))))
 ·rw[mf,A];rfl
 ·simp only[c0,dB,m,p1,p,q,r.n,C,D,jA,nF,mf,jG];simp
theorem JH{ops cR:List Int}{Z vl:V}(H0:cS F h cs)(aa:fJ (eI .i64) F h ops Z)(ab:fJ (eI .i64) F h cR vl)(ho:ops.length<9223372036854775808)(hv:cR.length<9223372036854775808)(H:∀h',Q (.bool true) h') :
  cP CS jh [Z,vl] h Q:=by
 refine uM rfl rfl ?_;unfold lJ;refine cO (show _=some (V.agg [.I 0,.I 0,.cQ,.cQ,.cQ]) from rfl) ?_;refine fo H0 rfl rfl rfl λh1 t s1=>?_;generalize h.next=lu at*;have t:=t.cons (p:=cW (eI .u64) RN [] .cQ) iY.nil λ_ _ _ l h=>h.elim;have t:=t.cons (p:=cW eV dP [] .cQ) iY.nil λ_ _ _ l h=>h.elim;obtain⟨X,au⟩:∃X:Nat,X=fA:=⟨_,rfl⟩
 have t:cS F h1 (cW eV dP [] .cQ::cW (eI .u64) RN [] .cQ::cV lu X [.I 0,.I 0,.cQ,.cQ,.cQ]::cs):=by subst au;exact t
 obtain ⟨I,u⟩:∃I:Nat->LP,I=λk l h'=>∃(i:Nat) (c:List Vl) (want:List Int) (vv wv:V),l=[Z,vl,.ptr lu 0,wv,.I i]/\i+k=3/\Sn F h F h'/\c.length=i/\oZ c want/\
   cS F h' (cW eV dP c vv::cW (eI .u64) RN want wv::cV lu X [.I 0,.I 0,vv,.cQ,.cQ]::cs):=⟨_,rfl⟩
 refine sQ I (λk x0 x1 x5 wv x7 h2 hi=>?_) (k:=3) ?_;rotate_left
 ·rw[u];exact⟨0,[],[],.cQ,.cQ,rfl,by omega,s1,rfl,.nil,t⟩
 clear t s1;rw[u]at hi;obtain⟨i,c,want,vv,_,⟨⟩,hk,s2,J,c2,H2⟩:=hi;unfold kx;by_cases hi:i<3
 ·refine dZ (cO (Dz ..) (cO (ab.since s2).len ?_));have kR:∀n:Int,zS .i64 n->fN CS Q (xR I k) [Z,vl,.ptr lu 0,wv,.I i,.I n] h2:=λn hn=>by
   refine sm ?_;unfold j4;refine oF (H2.ld 2 rfl rfl) (cO (show _=some (V.agg (kN ⟨2,0,0,n,[],0⟩ .cQ)) from rfl) ?_);refine Fa H2 (i:=0) (j:=2) (y:=(⟨2,0,0,n,[],0⟩:Vl)) rfl rfl (by decide) (by simp) rfl (by decide) (qv rfl rfl rfl) ⟨_,rfl,.nil⟩ (by decide) (by omega) λv3 h3 K e=>?_;simp only[fY,jq]at e;refine cO (by rw[jA,nF]) ?_;refine MI (E:=eI .u64) e (i:=1) (y:=kK n) rfl rfl (by decide) (NO rfl rfl) ⟨rfl,Jt n⟩ (by decide) (by rw[c2.len];omega) λw4 h4 _ s4 H4=>?_;simp only[fY,jq]at H4;refine du ⟨k-1,by omega,?_⟩;rw[u];exact⟨i+1,_,_,v3,w4,rfl,by omega,(s2.trans K).trans s4,by simp[J],c2.snoc (x:=⟨2,0,0,n,[],0⟩) (by omega) (.inl rfl) rfl rfl,H4⟩
  by_cases hj:i<cR.length
  ·refine dZ ?_;obtain⟨l4,o4,u4,_,i1,i2,i3⟩:=(ab.since s2).Np hj .i64 rfl;obtain⟨rfl⟩:u4 = .I cR[i]:=by simpa using i3.1
   exact cO i1 (cO i2 (kR _ i3.2))
  ·refine fq ?_;refine kR _ ?_;rw[yi (by simp only[zS];omega)];simp only[zS];omega
 refine fq ?_
 obtain ⟨I1,r⟩:∃I1:Nat->LP,I1=λk l h'=>∃(j:Nat) (c:List Vl) (want:List Int) (vv wv:V),l=[Z,.ptr lu 0,wv,.I j]/\j+k=30/\Sn F h F h'/\c.length=3+j/\oZ c want/\(∀w∈want,zS .u64 w)/\
   cS F h' (cW eV dP c vv::cW (eI .u64) RN want wv::cV lu X [.I 0,.I 0,vv,.cQ,.cQ]::cs):=⟨_,rfl⟩
 refine sX I1 (λk1 x0 x5 wv x9 h3 ac=>?_) (k:=30) ?_;rotate_left
 ·rw[r];refine⟨0,c,want,vv,wv,rfl,by omega,s2,by omega,c2,λw z=>?_,H2⟩;obtain⟨n,hn,rfl⟩:=List.mem_iff_getElem.1 z;obtain⟨_,_,_,_,_,q⟩:=H2.Np 1 rfl hn .i64 rfl;exact q.2
 clear H2 s2 c2 J;rw[r]at ac;obtain⟨j,c,want,vv,_,⟨⟩,aL,K,J,M,aw,e⟩:=ac;unfold ko;have aM:=M.len;refine cO (aa.since K).len (cO (jZ ..) (cO (a:= .bool (decide (j<ops.length/\j<30))) ?_ (fK ?_)))
 ·simp only[c0,jZ,fW];congr 2;rw[MN,rm,zv,zv,zv];omega
 by_cases hj:j<ops.length/\j<30
 ·refine ei (Ka hj) ?_;obtain⟨l4,o4,u4,_,i1,i2,i3⟩:=(aa.since K).Np hj.1 .i64 rfl;obtain⟨rfl⟩:u4 = .I ops[j]:=by simpa using i3.1
  refine cO i1 (cO i2 ?_);have aN:=FL ops[j] (m:=12) (by decide);show cP CS fH [.I ops[j],.I ((12:Nat):Int)] h3 _;refine IW (by decide) (by decide) (cO (a:= .I ((3+C9 ops[j] 12:Nat):Int)) (by
   rw[z9,yi (by simp only[zS];omega)];simp) ?_)
  have A:∀(y:Int),y≠0->cX .quo 3 (.I ops[j]) (.I y)=some (.I (jr .i64 (ops[j].tdiv y))):=λy hy=>by
   cases y with
   | ofNat n=>cases n with
     |zero=>exact absurd rfl hy
     |succ n=>rfl
   |negSucc n=>rfl
  refine cO i1 (cO i2 (cO (A 12 (by decide)) (oF (e.ld 2 rfl rfl) (cO (e.len 0 rfl) ?_))));have pa:=FL (jr .i64 (ops[j].tdiv 12)) (m:=c.length) (by omega);refine IW (by omega) (by omega) ⟨iC _,cO i1 (cO i2 (cO (A 400 (by decide)) (oF (e.ld 2 rfl rfl) (cO (e.len 0 rfl) ?_))))⟩;have pb:=FL (jr .i64 (ops[j].tdiv 400)) (m:=c.length) (by omega);refine IW (by omega) (by omega) ⟨iC _,oF (e.ld 2 rfl rfl) ?_⟩;generalize aO:3+C9 ops[j] 12=op at*;generalize C9 (jr .i64 (ops[j].tdiv 12)) c.length=a at*;generalize C9 (jr .i64 (ops[j].tdiv 400)) c.length=b at*;refine cO (show _=some (V.agg (kN ⟨op,a,b,0,[],0⟩ .cQ)) from rfl) ?_;refine Fa e (i:=0) (j:=2) (y:=(⟨op,a,b,0,[],0⟩:Vl)) rfl rfl (by decide) (by simp) rfl (by decide) (qv rfl rfl rfl) ⟨_,rfl,.nil⟩ (by decide) (by omega) λv5 h5 s5 o=>?_;simp only[fY,jq]at o;obtain⟨l6,o6,w6,q1,q2,q3⟩:=o.Np 1 rfl (show a<want.length by omega) .i64 rfl;obtain⟨rfl⟩:w6 = .int .u64 want[a]:=by simpa using q3.1
  obtain⟨l7,o7,w7,r1,r2,r3⟩:=o.Np 1 rfl (show b<want.length by omega) .i64 rfl;obtain⟨rfl⟩:w7 = .int .u64 want[b]:=by simpa using r3.1
  refine cO q1 (cO q2 (cO r1 (cO r2 (PZ q3.2 r3.2 (by omega) ⟨iC _,cO rfl (cO rfl ?_)⟩))));refine MI (E:=eI .u64) o (i:=1) (y:=uV op want[a] want[b]) rfl rfl (by decide) (NO rfl rfl) ⟨rfl,DT _ _ _⟩ (by decide) (by omega) λw8 h8 _ N C=>?_;simp only[fY,jq]at C;refine du ⟨k1-1,by omega,?_⟩;rw[r];refine⟨j+1,_,_,v5,w8,rfl,by omega,(K.trans s5).trans N,by simp;omega,M.snoc (x:=⟨op,a,b,0,[],0⟩) (by omega) (.inr ⟨by show 3<=op;omega,by show op<=14;omega,pa,pb⟩) rfl ?_,λw z=>?_,C⟩
  ·rw[if_neg (show ¬op=2 by omega)];simp[Au,fg (show a<want.length by omega),fg (show b<want.length by omega)]
  ·rcases EC.1 z with z|z
   ·exact aw w z
   ·rw[Ut]at z;subst z;exact DT _ _ _
 refine dM (by rw[zv];exact hj) ?_;clear u r I I1;have aP:=M.le;refine cO (show _=some (V.agg [.cQ,.I 3,.I 0,.cQ,.cQ,.I 0]) from rfl) ?_;refine fo e rfl rfl rfl λh4 H4 s4=>cO (show _=some (V.agg [.I 0,.I 0,.cQ,.cQ]) from rfl) ?_;refine fo H4 rfl rfl rfl λh5 o s5=>?_;generalize h3.next=lb at*;generalize h4.next=lf at*;have o:=o.cons (p:=cW eN cT [] .cQ) iY.nil λ_ _ _ l h=>h.elim;have o:=o.cons (p:=cW eN cT [] .cQ) iY.nil λ_ _ _ l h=>h.elim;have ae:=(K.trans s4).trans s5;obtain⟨Tb,ax⟩:∃Tb:Nat,Tb=dm:=⟨_,rfl⟩
 obtain⟨Tf,ay⟩:∃Tf:Nat,Tf=CB:=⟨_,rfl⟩
 obtain ⟨I,u⟩:∃I:Nat->LP,I=λk l h'=>∃(i:Nat) (bv fv:V),l=[.ptr lu 0,wv,.ptr lb 0,.ptr lf 0,.I i]/\i+k=c.length/\Sn F h F h'/\
   cS F h' (cW eN cT (List.range i) bv::cW eN cT (List.range i) fv::cV lf Tf [.I 0,.I 0,fv,.cQ]::cV lb Tb [bv,.I 3,.I 0,.cQ,.cQ,.I 0]::cW eV dP c vv::cW (eI .u64) RN want wv::cV lu X [.I 0,.I 0,vv,.cQ,.cQ]::cs):=⟨_,rfl⟩
 refine sV I (λk x5 x6 aQ aR aS h6 ag=>?_) (k:=c.length) ?_;rotate_left
 ·rw[u];refine⟨0,.cQ,.cQ,rfl,by omega,ae,?_⟩;subst ax ay;exact o
 clear o H4 e K s4 s5 ae;rw[u]at ag;obtain⟨i,bv,fv,⟨⟩,hk,s6,O⟩:=ag;unfold kB;refine oF (O.ld 6 rfl rfl) (cO (O.len 4 rfl) ?_);by_cases hi:i<c.length
 ·refine dZ (oF (O.ld 3 rfl rfl) ?_);refine Fa O (i:=0) (j:=3) (y:=i) rfl rfl (by decide) (by simp) rfl (by decide) (kH i) rfl (by decide) (by simp;omega) λv7 h7 s7 Y=>?_;simp only[fY,jq]at Y;refine oF (Y.ld 2 rfl rfl) ?_;refine Fa Y (i:=1) (j:=2) (y:=i) rfl rfl (by decide) (by simp) rfl (by decide) (kH i) rfl (by decide) (by simp;omega) λv8 h8 N C=>?_;simp only[fY,jq]at C;refine du ⟨k-1,by omega,?_⟩;rw[u];refine⟨i+1,v7,v8,rfl,by omega,(s6.trans s7).trans N,?_⟩;rw[Wn];exact C
 obtain rfl:i=c.length:=by omega
 refine fq (cO (show eg 6 (.ptr lb 0) h6=some (V.agg (nV (Ei c.length) bv .cQ .cQ)) from O.zt 3 rfl rfl) ?_);obtain⟨Y,s7,rb⟩:=O.gh 0 rfl;obtain⟨C,N,rf⟩:=Y.gh 1 rfl;obtain⟨H9,s9,rv⟩:=C.gh 4 rfl;simp only[fY,jq]at H9;have rb:=(rb.since N).since s9;have rf:=rf.since s9;have H9:=H9.perm [2,3,6,5] 7 (by decide) (by decide) (by simp);have aT:=s6.trans ((s7.trans N).trans s9);clear O Y C s7 N s9;generalize (λl=>((F l\/Loc bv l)\/Loc fv l)\/Loc vv l)=G at*;refine MM H9 (E:=eK) (y:=Ei c.length) rfl rfl ⟨_,_,_,rfl,rb,.nil,.nil⟩ λaU aV wb ah aA rB=>?_;refine Rf aA (j:=2) rfl (by simp) rfl λaB P S=>?_;simp only[fY,jq]at S;refine cO (show eg 4 (.ptr lf 0) aB=some (V.agg (Jo ⟨0,0,List.range c.length,[]⟩ fv .cQ)) from S.zt 0 rfl rfl) ?_;refine MM S (E:=eF) (y:=⟨0,0,List.range c.length,[]⟩) rfl rfl ⟨_,_,rfl,(rf.since ah).since P,.nil⟩ λaW aX wf ai aC rF=>?_;refine cO (show _=some (V.agg [.slice wf 0 1]) from rfl) ?_;refine MM aC (E:=eT) (y:=[⟨0,0,List.range c.length,[]⟩]) rfl rfl ⟨_,rfl,rF⟩ λaY aZ ws aj aD rS=>?_;refine Rf aD (j:=2) rfl (by simp) rfl λaE T U=>?_;simp only[fY,jq]at U;have ak:=(((rv.since ah).since P).since ai).since aj|>.since T;have al:=(((rB.since P).since ai).since aj).since T;refine cO (show eg 5 (.ptr lu 0) aE=some (V.agg (uC (G5 c) vv (.slice wb 0 1) (.slice ws 0 1))) from U.zt 2 rfl rfl) ?_;refine SX (Gu M) (λv x hx=>by rw[M.args v x hx];exact J9 _) U ⟨ak,al,rS.since T⟩ λa4 aF u' xv xb xs a5 aG W R=>?_;obtain⟨wd,gw,dw,ew⟩:=R.done;have L:=KK gw dw;rw[<-ew]at L;have D:∀y∈u'.cR,2<=y.op/\y.op<=14:=R.ops (λn=>2<=n/\n<=14) (by decide) λx hx=>by
  obtain⟨n,hn⟩:=kh.1 hx;exact M.PW hn
 obtain⟨B,fs,f,hb,aH,hs,hf,hlen,am⟩:=MX M R.yS R.nb D L.cR R.Eb;have g:=R.yS;clear R dw gw ew L D;refine fo aG rfl rfl W.one λa6 an ao=>?_;generalize aF.next=lw at*;refine MQ (cO rfl (dr (cO (an.zt 0 rfl rfl) (tD ?_))));refine LC g an (W.since ao) λa7 ap aI d=>?_;have s:=(W.since ao).since aI;have cb:df (.ptr lw (0+3)) ap=some xb:=d.ld 0 rfl rfl;have aJ:df (.ptr lw (0+4)) ap=some xs:=d.ld 0 rfl rfl;have hB:u'.blocks[0]? =some B:=by rw[hb];rfl
 obtain⟨l1,o1,a8,bn,bp,_,x1,x2,iv,iN,ip,yb⟩:=s.jB hB;have aq:=s.b.len;rw[hb]at aq;have x1:eX 6 xb (V.I 0)=some (.ptr l1 o1):=x1;obtain⟨l2,o2,f2,_,t1,_,t2,sf⟩:=s.st hs;obtain⟨ar,hf⟩:=gL.1 hf;obtain⟨l3,o3,w3,_,y1,_,y3,y4⟩:=sf.ix ar .i64;rw[hf]at y3;obtain⟨wl,a9,rfl,yl,_⟩:=y3;have y1:eX 4 f2 (V.I 0)=some (.ptr l3 o3):=y1;refine cO rfl (cO (a:= .bool false) ?_ (cO (a:= .bool false) ?_ (fK (dM (by simp) ?_))))
 ·simp only[c0,dB,cb,aq,mf,jG];rfl
 ·simp only[c0,dB,cb,x1,yb.fin,aH,mf,jG];rfl
 refine oF aJ (oF cb (cO x1 (oF yb.st (cO t1 (oF t2 (cO y1 (oF (y4 2 _ rfl) (cO yl.len (cO (d.len 4 rfl) (xM (ei (by omega) ?_)))))))))));have aK:=((g.st _ _ hs).2.2 f (by rw[<-hf];exact ym ar)).1;have d:=d.perm [0,4] 5 (by decide) (by decide) (by simp);exact KN aK d s yl hlen am H
end
