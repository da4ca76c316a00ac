/- Parts. -/
import Derived.Test.YtpfjdlicdljhaaaDoorM50
import Derived.Test.YtpfjdlicdljhaaaDoorM46
import Derived.Test.YtpfjdlicdljhaaaDoorM40
set_option maxHeartbeats 4000000
namespace Go.Proofs.YtpfjdlicdljhaaaDoor.Hx
open Un Dm
def zau(u:U):Prop:=(∀v,Unf u v)/\∀(b:Nat)(B:Bk)(n:Int),u.blocks[b]? =some B->B.fin=2->¬Kw u B.cond n
structure Pass (u:U) (c:Bool) (u1 u2:U) (az:List Int):Prop where
 B0:Good u1
 args:yP u1
 JB:uq u u1
 func:u1.func=u.func
 pc:u1.pc=u.pc
 st:u2.eh=u.eh
 ops:∀p:Nat->Prop,p 2->(∀x∈u.ef,p x.op)->∀y∈u1.ef,p y.op
 nb:u1.blocks.length=u.blocks.length
 e:Jb u1 u2
 len:az.length=u1.ef.length
 fa:Rp u1 (kV az)
 mu:mu u2<=mu u
 less:c=true->Un.mu u2<Un.mu u\/∃v x,u1.ef[v]? =some x/\x.op≠2/\stays (kV az) v=false
 same:c=false->u2=u/\u1=u/\az=nq u/\zau u
theorem Dc{u:U}{v:Nat}(h:v<u.ef.length):(nq u)[v]? =some (v:Int):=by
 unfold nq;rw[AJ,List.getElem?_range h];rfl
theorem sj{az:List Int}{v:Nat}{a:Int}(h:az[v]? =some a):kV az v=a:=by
 unfold kV;rw[EN,h];rfl
theorem Ag.pass{u u2:U}{c:Bool}{az:List Int}(A:Ag u 4 c u2 az):∃u1,Pass u c u1 u2 az:=by
 obtain ⟨u1,G,c2,H,I,M,t,s,C,N,J,K,O,m,rfl,_,_,_,_⟩:=A;have D:M.length=u1.ef.length:=by
  cases c2 with
  |false=>rw[s rfl,A3,t.len]
  | true=>
    obtain⟨v,r,_,q⟩:=C rfl;rw[q,KD,A3,t.len]
 have P:az.length=u1.ef.length:=N.trans D;have cas:∀v,v<u1.ef.length->kV az v=(v:Int)\/(kV az v = -1/\Vz u1 v)\/∃r:Nat,kV az v=(r:Int)/\PhO u1 v r/\∀w,w≠v->w<u1.ef.length->kV az w=(w:Int)\/(kV az w = -1/\Vz u1 w):=λv k=>by
  have l:v<u.ef.length:=by rw[<-t.len];exact k
  rcases J v with h|⟨h,o⟩
  ·cases c2 with
   | false=>
     rw[s rfl,Dc l]at h
     exact .inl (sj h)
   | true=>
     obtain⟨Q,r,R,q⟩:=C rfl;by_cases e:v=Q
     ·subst e
      rw[q,MT (by rw[A3];exact l)]at h;refine .inr (.inr ⟨r,sj h,R,λw S E=>?_⟩);rcases J w with h'|⟨h',o⟩
      ·rw[q,HO λz=>S z.symm,Dc (by rw[<-t.len];exact E)]at h'
       exact .inl (sj h')
      ·exact .inr ⟨sj h',o⟩
     ·rw[q,HO λz=>e z.symm,Dc l]at h
      exact .inl (sj h)
  ·exact .inr (.inl ⟨sj h,o⟩)
 have out:∀v,u1.ef.length<=v->kV az v = -1:=λv k=>by
  unfold kV;rw[EN,Xa (by omega)];rfl
 refine⟨u1,t.B0,t.args,t.JB,t.func,t.pc,m.e.eh.trans t.eh,t.ops,by rw[t.blocks],m.e,P,⟨out,λv r h=>?_,λv x a=>?_⟩,Fe m.mu t.mu,λhc=>?_,λhc=>?_⟩
 ·by_cases k:v<u1.ef.length
  ·rcases cas v k with i|⟨i,_⟩|⟨r',i,⟨x,a,d,f,F,_⟩,T⟩
   ·obtain rfl:r=v:=by omega
    exact h
   ·omega
   ·obtain rfl:r=r':=by omega
    obtain⟨y,j,o⟩:=t.B0.use v x a r (by unfold g0;rw[if_pos d];exact F);rcases T r f (jq.1 j).1 with V|⟨_,y',_,p,g,_⟩
    ·exact V
    ·rw[j]at p;cases p;rw[g]at o;cases o
  ·have:=out v (by omega);omega
 ·rcases cas v (jq.1 a).1 with i|⟨i,y,n,j,g,hk,W⟩|⟨r,i,⟨y,j,d,f,F,X⟩,_⟩
  ·exact .inl i
  ·rw[a]at j;cases j;exact .inr (.inl ⟨i,g,n,hk,W⟩)
  ·rw[a]at j;cases j;exact .inr (.inr ⟨d,r,i,f,F,X⟩)
 ·have m1:=t.mu;have m2:=m.mu
  cases I with
  |true=>have:=m.less rfl;exact .inl (by omega)
  | false=>
    cases H with
    | true=>
      obtain⟨v,k,h,x,n,a,g,_⟩:=O rfl;refine .inr ⟨v,x,a,by omega,?_⟩;unfold stays;rw[sj h,UT]
      omega
    | false=>
      cases c2 with
      | true=>
        obtain⟨v,r,⟨x,a,d,f,_⟩,q⟩:=C rfl;have k:=(jq.1 a).1;refine .inr ⟨v,x,a,by omega,?_⟩;unfold stays;rw[K rfl,q,sj (MT (by rw[A3,<-t.len];exact k)),UT]
        omega
      | false=>
        cases G with
        |true=>have:=t.less rfl;exact .inl (by omega)
        |false=>cases hc
 ·cases I <;> cases H <;> cases c2 <;> cases G <;> first|cases hc|skip
  obtain⟨Y,Z⟩:=t.same rfl;obtain⟨q3,q4⟩:=m.same rfl;subst Y;subst q3;refine⟨rfl,rfl,(K rfl).trans (s rfl),λv x n a=>?_,λb B n L h2=>?_⟩
  ·exact Z v ⟨by decide,(jq.1 a).1⟩ x n a
  ·exact q4 b B n ⟨by decide,(jq.1 L).1⟩ L h2
open Un Dm
theorem SS{n:Nat}{nx:Nat->List Nat}{seen:List Bool}{post:List Nat}(G:E3 n nx seen post []):∀(m:Nat)(l r:List Nat)(b:Nat),r.length<=m->post=l++b::r->∃p,Pt nx b p
 | m,l,r,b,hm,h=>by
   rcases G.early l b r h with rfl|⟨p,c,a|a⟩
   ·exact⟨_,.nil⟩
   ·obtain ⟨r1,r2,rfl⟩:=List.append_of_mem a
    cases m with
    |zero=>simp at hm
    | succ m=>
      obtain⟨q,hq⟩:=SS G m (l++b::r1) r2 p (by simp at hm;omega) (by rw[h];simp);exact⟨_,.step hq c⟩
   ·cases a
section
variable{u u1 u2 w:U}{c:Bool}{az kL:List Int}{kp:Nat->Bool}{seen:List Bool}{post:List Nat}
structure Next (u:U) (c:Bool) (u':U):Prop where
 B0:Good u'
 args:yP u'
 JB:uq u u'
 func:u'.func=u.func
 pc:u'.pc=u.pc
 ops:∀p:Nat->Prop,p 2->(∀x∈u.ef,p x.op)->∀y∈u'.ef,p y.op
 nb:u'.blocks.length<=u.blocks.length
 less:c=true->mu u' < mu u
theorem Pass.cut(p:Pass u c u1 u2 az)(G:E3 u2.blocks.length (next u2) seen post [])(E:kp=λb=>post.reverse.contains b)(d:Cut u2 kp w)(m:Jc u2 kp az kL):xV w kL/\Next u c (gR w (kV kL)):=by
 have g:=p.B0;have hk:∀b,kp b=true↔∃l,Pt (next u2) b l:=λb=>by
  rw[E,wBP,YL];refine⟨λh=>?_,λ⟨l,M⟩=>NP G M⟩;obtain⟨l,r,e⟩:=List.append_of_mem h;exact SS G _ l r b (iZ _) e
 have Gn:Rg u1 kp (kV az) (kV kL):=⟨λv b k j N=>sj (m.gone v b k ((JC p.e).2 j) N (by rw[p.len];exact g.jA _ _ _ j)),λv O=>by
  have:=m.same v λ⟨b,k,t,o⟩=>O ⟨b,k,(JC p.e).1 t,o⟩;unfold kV;rw[EN,EN,this]⟩
 have F:Gd w λv=>stays (kV kL) v=true:=Kj g p.e hk d Gn.gone;have J:yP w:=λv P s=>by
  obtain⟨x,f,_⟩:=FX g p.e d s;have z:u2.ef[v]? =some x:=by rw[p.e.ef];exact f
  by_cases h:x.op=21/\∃b k,At u2 v b k/\kp b=true
  ·obtain⟨t,b,k,o,Q⟩:=h;obtain⟨B,K,_⟩:=id o;obtain⟨A,R,_,S,_⟩:=Cy p.e K;have:=d.By v b k x B o z t Q K;rw[s]at this;cases this;have hlen:=(g.By v b k x A ((JC p.e).1 o) f t R).2;have:=p.args v x f;show((qw u2 kp b B.ez).map _).length<=700;rw[BW];refine Fe (U9 _ _) ?_;rw[QV,S];omega
  ·have:=d.same v x z h;rw[s]at this;cases this;exact p.args v P f
 have H:kL.length=w.ef.length:=by rw[m.len,p.len,d.len,p.e.ef]
 have C:∀(v:Nat) (a:Int),kL[v]? =some a->a<kL.length:=λv a h=>by
  have X:=(jq.1 h).1;by_cases h0:0<=a
  ·have L:=sj h;obtain⟨q,b,k,j,_⟩:=Kr g p.fa Gn (v:=v) (by rw[L];exact h0);rw[L]at q;rcases p.fa.cas v _ (ig (g.jA _ _ _ j))with t|⟨t,_⟩|⟨I,r,t,_,T,_⟩
   ·omega
   ·omega
   ·obtain⟨y,D,_⟩:=g.use v _ (ig (g.jA _ _ _ j)) r (by unfold g0;rw[if_pos I];exact T);have:=(jq.1 D).1;rw[m.len,p.len];omega
  ·omega
 refine⟨Nd F J H C,TY g p.e hk d p.fa Gn,λi y D=>?_,p.JB.trans (TH g p.e hk d p.fa Gn),?_,?_,λq o h y D=>?_,?_,λhc=>?_⟩
 ·obtain⟨n,x,_,s,rfl,_⟩:=AB F D;have:=J n x s;unfold gX;simp only;split
  ·rw[BW];exact this
  ·exact this
 ·show w.func=u.func;rw[d.func,p.e.func,p.func]
 ·show w.pc=u.pc;rw[d.pc,p.e.pc,p.pc]
 ·obtain⟨i,hi⟩:=mm.1 D;obtain⟨n,x,_,s,rfl,_⟩:=AB F hi;obtain⟨U,f,V,_⟩:=FX g p.e d s;show q x.op;rw[V.op];exact p.ops q o h U (AI f)
 ·show(w.blocks.map _).length<=_;have:=congrArg List.length (Nz p.e d);rw[QV,BW]at this;have:=U9 kp (List.range u1.blocks.length);rw[QV]at this;have:=p.nb;rw[BW];omega
 ·obtain ⟨Y,W⟩:=Yo g p.e hk d (Al:=kV kL) Gn.gone;have:=p.mu;rcases p.less hc with h|⟨v,x,s,o,hs⟩
  ·omega
  ·have:=W ⟨v,x,s,o,?_⟩
   ·omega
   ·unfold stays at hs⊢;rw[UT]at hs⊢;intro q;obtain⟨Z,_⟩:=Kr g p.fa Gn (v:=v) (by omega);omega
theorem Pass.YN(p:Pass u c u1 u2 az):PM u2/\Ey u2:=by
 have g:=p.B0;have sz:=Lj g p.args;have m:=Nh g p.args;have o:∀{b:Nat} {B:Bk},u2.blocks[b]? =some B->B.next.length<=2:=λ{b B} a=>by
  obtain⟨A,d,_,_,_,h|⟨_,n,t,_,_,h⟩⟩:=Cy p.e a
  ·rw[h];exact AR g d
  ·rw[h];simp
 refine⟨⟨by rw[p.e.ef];exact sz.nv,by rw[p.e.len];exact sz.nb,by rw[p.e.eh];exact sz.ns,λv x f=>p.args v x (by rw[<-p.e.ef];exact f),λb B a=>?_,λs fs hs=>sz.st s fs (by rw[<-p.e.eh];exact hs)⟩,⟨⟨by rw[p.e.len];exact g.Jz,by rw[p.e.len];exact g.nb,λb t q=>by rw[p.e.len];exact g.nx b t (K9 p.e q),λb B a=>o a⟩,by rw[p.e.ef];exact g.nv,λv b k b' k' h h'=>g.Hy v b k b' k' ((JC p.e).1 h) ((JC p.e).1 h'),λv b k h=>by rw[p.e.ef];exact g.jA v b k ((JC p.e).1 h),λb B a=>?_,λv b k x B j f l a=>?_,λv x f=>p.args v x (by rw[<-p.e.ef];exact f)⟩⟩
 ·obtain⟨A,d,r,i,_⟩:=Cy p.e a;obtain⟨a1,a2,_⟩:=sz.mh b A d;exact⟨by rw[r];exact a1,by rw[i];exact a2,o a⟩
 ·obtain⟨A,d,_,i,_⟩:=Cy p.e a;obtain⟨a1,a2⟩:=m.pre b A d;rw[i,p.e.len];exact⟨a1,a2⟩
 ·obtain⟨A,d,_,i,_⟩:=Cy p.e a;rw[i];exact m.By v b k x A ((JC p.e).1 j) (by rw[<-p.e.ef];exact f) l d
end
open Un Dm
section
variable{F F':Nat->Prop}{h h':Hp}{cs ds:List Pc}{Q:fo}{u:U}{vv vb vs jM wv wb ws:V}{az:List Int}{lf:Nat}{xs:List (Vl×V)}{bs:List (Bk×V)}{ss:List (List (Fm×V×V))}{fa fn:Nat->Option (List Nat×V)}{fl:KF->Option (List Nat×V)}
theorem st5(H:ei F h cs)(i:Nat){l ty:Nat} {a b c d e f a' b' c' d' e':V}(hi:cs[i]? =some (er l ty [a,b,c,d,e,f]))(j:fW [a',b',c',d',e']=true) :
  ∃h',gG 5 (.ptr l 0) (.agg [a',b',c',d',e']) h=some (.val .undef h')/\h.next<=h'.next/\ei F h' (cs.set i (er l ty [a',b',c',d',e',f]))/\Sn F h F h':=by
 have g:=H.ok i _ hi;exact⟨_,WE g.1 rfl (by simp) j,iZ _,H.AS hi (kM.put _ rfl g.2.1) ⟨fS _ g.2.1,g.2.1,g.2.2⟩ λ_ h=> .inl h⟩
theorem ei.zbg(hc:WJ u.ef xs fa)(i:UP u.blocks bs fn)(hs:Y9 u.eh ss fl)(H:ei F h (eJ wk gi xs wv::eJ tM fu bs wb::eJ (eL Oi) kS ss ws::fG en fa::fG en fn::fG en fl::cs)) :
  ∃G,ei G h (eJ eV gi u.ef wv::eJ eK fu u.blocks wb::cs)/\Sn F h G h/\iA (eL eF) G h u.eh ws:=by
 have Hp:=H.perm [2,3,4,5,0,1] 6 (by decide) (by decide) (by simp);obtain⟨G,o,m,g⟩:=Hp.Py 4;have e:∀l,F l->G l:=λl p=>m.mono l p;have q:=o.Up 0 (E':=eV) (ys:=u.ef) rfl rfl (by rw[<-hc.fst];simp) λk x y ws c b d=>by
  obtain⟨x,w⟩:=x;rw[<-hc.fst,AJ,c]at b;cases b;obtain⟨rfl,_⟩:=d;exact⟨w,rfl,Jo H 3 rfl e (g 1 _ (by decide) rfl) (hc.row k x w c)⟩
 have r:=q.Up 1 (E':=eK) (ys:=u.blocks) rfl rfl (by rw[<-i.fst];simp) λk x y ws c b d=>by
  obtain⟨x,w⟩:=x;rw[<-i.fst,AJ,c]at b;cases b;obtain⟨s,t,rfl,v,ip,_⟩:=d;exact⟨s,w,t,rfl,v,Jo H 4 rfl e (g 2 _ (by decide) rfl) (i.row k x w c),ip⟩
 refine⟨G,r,m,?_⟩;refine iA.ofRow H 2 rfl e (g 0 _ (by decide) rfl) rfl (by rw[<-hs.fst];simp) λk x y ws c b d=>?_;rw[<-hs.fst,AJ,c]at b;cases b;obtain⟨f,rfl,A⟩:=d;refine⟨f,rfl,A.Up rfl e (by simp) λj z y cs n b d=>?_⟩;rw[AJ,n]at b;cases b;obtain⟨z,a,w⟩:=z;obtain⟨rfl,_,_⟩:=d;obtain⟨r1,r2⟩:=hs.loc k x j z a w c n;exact⟨a,w,rfl,Jo H 5 rfl e (g 3 _ (by decide) rfl) r1,Jo H 5 rfl e (g 3 _ (by decide) rfl) r2⟩
structure zbj (u u':U):Prop where
 B0:Good u'
 args:yP u'
 JB:uq u u'
 func:u'.func=u.func
 pc:u'.pc=u.pc
 ops:∀p:Nat->Prop,p 2->(∀x∈u.ef,p x.op)->∀y∈u'.ef,p y.op
 nb:u'.blocks.length<=u.blocks.length
 done:∃w,Good w/\zau w/\u' = gR w (kV (nq w))
theorem Xr(g:Good u)(ha:yP u)(H0:ei F h cs)(hu:CL F h u vv vb vs)
  (H:∀F' h' u' wv wb ws,Sn F h F' h'->ei F' h' cs->CL F' h' u' wv wb ws->zbj u u'->Q (.agg (uC u' wv wb ws)) h') :
  cP CS Aa [.agg (uC u vv vb vs)] h Q:=by
 refine ON rfl rfl ?_;unfold Jm;refine nQ H0 hu.one λh1 H1 s1=>Ec H1 λC H2 s2=>?_;generalize h.next=l1 at*;generalize h1.next=l2 at*;have u2:=(hu.since s1).since s2;refine ed (H2.C9 1 rfl rfl) (WL g H2 u2 λF3 h3 s3 H3=>MZ (iI (fT (by simp) (ed (H3.C9 1 rfl rfl) ?_))));refine Sk (Lj g ha) H3 (u2.since s3) λF4 h4 wv wb ws xs bs ss fa fn fl s4 hc hb hs H4=>?_;obtain⟨G,H5,s5,r5⟩:=H4.zbg hc hb hs;refine ed (show _=some (V.agg [.I u.func,.I u.pc,wv,wb,ws,.ee]) from rfl) ?_;refine nQ H5 (by simp only[ev,H5.one 0 rfl,H5.one 1 rfl,r5.one];rfl) λh6 H6 s6=>?_;generalize h4.next=lf at*;have aa:=((((s1.trans s2).trans s3).trans s4).trans s5).trans s6;obtain⟨z2,K⟩:∃z2:List V,z2=[.I 0,.I 0,.ee,.ee,.ee]:=⟨_,rfl⟩
 obtain ⟨I,hI⟩:∃I:Nat->LP,I=λk l h'=>∃(F':Nat->Prop) (u':U) (av xv Y xs:V),l=[.ptr l2 0,.ptr lf 0]/\mu u'<=k/\Sn F h F' h'/\Good u'/\yP u'/\uq u u'/\u'.func=u.func/\u'.pc=u.pc/\(∀p:Nat->Prop,p 2->(∀x∈u.ef,p x.op)->∀y∈u'.ef,p y.op)/\u'.blocks.length<=u.blocks.length/\av.one=true/\iA (eL eF) F' h' u'.eh xs/\
   ei F' h' (er lf Hu [.I u'.func,.I u'.pc,xv,Y,xs,av]::eJ eV gi u'.ef xv::eJ eK fu u'.blocks Y::er l2 gS z2::er l1 gS (uC u vv vb vs)::cs):=⟨_,rfl⟩
 refine Kv I (λk x2 x3 h7 hi=>?_) (k:=mu u) (by
  rw[hI,K];exact⟨G,u,.ee,wv,wb,ws,rfl,iZ _,aa,g,ha,.refl _,rfl,rfl,λ_ _ h=>h,iZ _,rfl,r5.since s6,H6⟩)
 rw[hI]at hi;obtain⟨F7,u7,av,xv,Y,xs,⟨⟩,hm,s7,L,a7,d7,M,N,O,P,ab,r7,H7⟩:=hi;unfold DH;refine VK L a7 r7.one ab H7 λF8 h8 u8 ac ae c s8 t A=>?_;obtain⟨u1,p⟩:=A.pass;obtain⟨sz,gc⟩:=p.YN;have rs:iA (eL eF) F8 h8 u8.eh xs:=by rw[p.st];exact r7.since s8
 have R:ae.length=u8.ef.length:=by rw[p.len,p.e.ef]
 have S:fW (uC u8 xv Y xs)=true:=by simp only[uC,ev,t.one 1 rfl,t.one 2 rfl,rs.one];rfl
 cases c with
 | true=>
   refine iI (gw rfl (ed pn (ed pf (ed (ld5 t 0 rfl) (oN (t.ld 0 rfl rfl) ?_)))));obtain⟨Z,D,q9⟩:=t.jQ 1 rfl;obtain⟨o,j,z⟩:=Z.jQ 2 rfl;have o:=o.perm [3,0,4,5] 6 (by decide) (by decide) (by simp);refine O0 sz gc R (λkp w kL seen post G d a f=>(p.cut G d a f).1) o ⟨q9.since j,z,(rs.since D).since j⟩ λag ah kp w kL seen post E J ys m i G d a f r11=>⟨m.next,ed pn (ed pf ?_)⟩
   obtain⟨_,nx⟩:=p.cut G d a f;generalize gR w (kV kL)=r at*;obtain⟨ai,aj,ak,B,s⟩:=st5 (a':= .I r.func) (b':= .I r.pc) (c':=E) (d':=J) (e':=ys) i 2 rfl (by simp only[ev,i.one 0 rfl,i.one 1 rfl,r11.one];rfl);rw[show gG 5 (.ptr lf (0+0)) (.agg (uC r E J ys)) ah=_ from aj,ej];refine⟨ak,mu r,by have:=nx.less rfl;omega,?_⟩;rw[hI];have T:=(((s8.trans D).trans j).trans m).trans s
   exact⟨ag,r,ac,E,J,ys,rfl,iZ _,s7.trans T,nx.B0,nx.args,d7.trans nx.JB,nx.func.trans M,nx.pc.trans N,λq C h=>nx.ops q C (O q C h),Fe nx.nb P,(t.one 3 rfl),r11.since s,B.perm [2,0,1,3,4] 5 (by decide) (by decide) (by simp)⟩
 | false=>
   obtain⟨rfl,rfl,rfl,dn⟩:=p.same rfl;refine iI (fT (by simp) (ed pn (ed pf (ed (ld5 t 0 rfl) (ed pn (ed pf (ed (ld5 t 0 rfl) (SE S (t.len 1 rfl) L.nv t λh9 aq D Z=>⟨D.next,ld5 Z 1 rfl,?_⟩))))))));have r9:=rs.since D;obtain⟨o,j,z⟩:=Z.jQ 2 rfl;obtain⟨i,m,al⟩:=o.jQ 3 rfl;have i:=i.perm [0,5,6] 7 (by decide) (by decide) (by simp);refine VR sz gc R (λkp w kL seen post G d a f=>(p.cut G d a f).1) i ⟨z.since m,al,(r9.since j).since m⟩ λam ai kp w kL seen post E J ys s B G d a f r12=>⟨s.next,?_⟩
   obtain ⟨_,nx⟩:=p.cut G d a f;have v:∀b,b<u1.blocks.length->kp b=true:=λb hb=>by
     obtain⟨l,hl⟩:=L.reach b hb;rw[d,wBP,YL];exact NP G hl
   obtain rfl:=a.eq L v;obtain rfl:=f.eq v;subst K;obtain⟨an,ao,ap,W,X⟩:=B.Y0 0 (ws:=uC (gR w (kV (nq w))) E J ys) (n:=5) rfl rfl rfl r12.one;rw[ao,ej];refine⟨ap,ed (W.C9 0 rfl rfl) ?_⟩;exact H am an _ E J ys ((((((s7.trans s8).trans D).trans j).trans m).trans s).trans X) W.tail.tail (r12.since X) ⟨nx.B0,nx.args,d7.trans nx.JB,nx.func.trans M,nx.pc.trans N,λq C h=>nx.ops q C (O q C h),Fe nx.nb P,w,L,dn,rfl⟩
end
open Un Dm
theorem SU{n:Int}(h:CO .u64 n):rh (ry n)=n:=by
 simp only[CO]at h;unfold rh ry;split <;> omega
theorem Rq{u:U}{v:Nat}(h:v<u.ef.length):stays (kV (nq u)) v=true:=by
 unfold stays;rw[sj (Dc h),beq_self_eq_true]
theorem Se{w:U}(g:Good w){a:Nat}{x:Vl}(c:w.ef[a]? =some x):(gR w (kV (nq w))).ef[nm w (kV (nq w)) a]? =some (gX w (kV (nq w)) x):=by
 have b:=(jq.1 c).1;have hs:=Rq b;have d:a∈fq w (kV (nq w)):=(TB g).2 ⟨b,hs⟩;have e:kV (nq w) a=(a:Int):=sj (Dc b);have f:sV (kV (nq w)) (w.ef.length+1) a=a:=by
  unfold sV;rw[if_neg (by omega)]
 have:nm w (kV (nq w)) a=(fq w (kV (nq w))).idxOf a:=by
  unfold nm;rw[f,if_pos d]
 rw[this];exact K4 (B7 d) c
structure Leaves (u:U):Prop where
 ef:∀(i:Nat) (y:Vl),u.ef[i]? =some y->3<=y.op->y.op<=14->∃a∈g0 y,∃z,u.ef[a]? =some z/\z.op≠2
 ends:∀(b:Nat) (B:Bk),u.blocks[b]? =some B->B.fin=2->∃z,u.ef[B.cond]? =some z/\z.op≠2
theorem OB{w:U}(g:Good w)(d:zau w):Leaves (gR w (kV (nq w))):=by
 refine⟨λi y s k f=>?_,λb B u l=>?_⟩
 ·obtain ⟨n,x,E,o,rfl,_⟩:=AB g s;have k:3<=x.op:=k;have f:x.op<=14:=f;have v:∃a∈g0 x,∃z,w.ef[a]? =some z/\z.op≠2:=by
   refine Classical.byContradiction λhc=>?_;have kn:∀a∈g0 x,∃z,w.ef[a]? =some z/\z.op=2:=λa m=>by
    obtain⟨z,h,_⟩:=g.use n x o a m;exact⟨z,h,Classical.byContradiction λq=>hc ⟨a,m,z,h,q⟩⟩
   rcases Ig k f with⟨c,e⟩|⟨c,e⟩
   ·obtain⟨z,h,j⟩:=kn x.a (by rw[e];simp);exact d.1 n x _ o ⟨k,f,rh z.n,0,⟨z,h,j,rfl⟩,λq=>(q c).elim,SU (NQ _ _ _)⟩
   ·obtain⟨z,h,j⟩:=kn x.a (by rw[e];simp);obtain⟨t,C,D⟩:=kn x.b (by rw[e];simp);exact d.1 n x _ o ⟨k,f,rh z.n,rh t.n,⟨z,h,j,rfl⟩,λ_=>⟨t,C,D,rfl⟩,SU (NQ _ _ _)⟩
  obtain⟨a,m,z,h,p⟩:=v;exact⟨nm w _ a,by rw[Qy];exact wBU m,_,Se g h,p⟩
 ·obtain⟨A,r,rfl⟩:=B4 u;have l:A.fin=2:=l;rcases g.fin b A r with⟨q,_⟩|⟨_,_,z,h,_⟩|⟨q,_⟩
  ·omega
  ·refine⟨_,by rw[show(kQ w (kV (nq w)) A).cond=nm w (kV (nq w)) A.cond from if_pos l];exact Se g h,λj=>?_⟩;have j:z.op=2:=j;exact d.2 b A (rh z.n) r l ⟨z,h,j,rfl⟩
  ·omega
section
variable{F F':Nat->Prop}{h h':Hp}{cs ds:List Pc}{Q:fo}
theorem TQ{op:Nat}{a b:Int}(c:CO .u64 a)(d:CO .u64 b)(e:¬(3<=op/\op<=14))(H:Q (.tuple [.int .u64 0,.bool false]) h):cP CS jF [.I op,.int .u64 a,.int .u64 b] h Q:=by
 refine uV rfl rfl ?_;unfold nN;refine ed (by rw[mi,FH c]) (ed (by rw[mi,FH d]) ?_);refine fP (fT (by omega) (fP (fT (by omega) (fP (fT (by omega) (fP (fT (by omega) (fP (fT (by omega) (fP (fT (by omega) (fP (fT (by omega) (fP (fT (by omega) (fP (fT (by omega) (fP (fT (by omega) (fP (fT (by omega) (fP (fT (by omega) ?_)))))))))))))))))))))));exact H
end
open Un Dm
section
variable{F F':Nat->Prop}{h h':Hp}{cs ds:List Pc}{Q:fo}{u:U}{vv vb vs:V}
theorem Rj(H:Q (.bool true) h):cP CS nH [] h Q:=by
 obtain⟨fn,c,a,b⟩:=Kz;exact cP.known a b (show CS.K nH [] h=some (.bool true) from rfl) rfl rfl H
theorem LQ(g:Good u)(L:Leaves u){lu p:Nat}(j:ei F h (er lu p (uC u vv vb vs)::cs))(c:CL F h u vv vb vs)(H:∀h',Q (.bool true) h') :
  ka CS Q [.ptr lu 0,.I 0] h:=by
 have nb:=g.nb;refine wc (λk l h'=>∃i:Nat,l=[.ptr lu 0,.I (i:Nat)]/\i+k=u.blocks.length/\h' = h) ?_ (k:=u.blocks.length) ⟨0,rfl,by omega,rfl⟩;rintro k _ _ d ⟨i,⟨⟩,hk,rfl⟩;unfold na;have f:ey (.ptr lu (0+3)) d=some vb:=j.ld 0 rfl rfl;have q:ey (.ptr lu (0+2)) d=some vv:=j.ld 0 rfl rfl;refine oF f (ed c.b.len ?_);by_cases hi:i<u.blocks.length;rotate_left
 ·exact ir (H d)
 refine gv ?_;have m:=ig hi;generalize u.blocks[i]=B at*;obtain⟨l1,v,w,x,y,_,n,A,C,D,ip,o⟩:=c.mh m;refine oF f (ed n (oF o.fin (ed (ik ..) (ed (a:= .bool false) ?_ (iI (fT (by simp) (fM ⟨k-1,by omega,i+1,rfl,by omega,rfl⟩)))))));by_cases e:B.fin=2
 ·obtain⟨z,r,E⟩:=L.ends i B m e;obtain⟨l4,G,I,_,s,_,_,t⟩:=c.val r;simp only[fe,fJ,q,f,n,o.cond,s,t.op,ik,iD];congr 2;rw[Bool.and_eq_false_iff];exact .inr (by rw[UT];omega)
 ·rw[show((B.fin:Int) == 2)=false by rw[UT];omega,Ku]
theorem Md(g:Good u)(L:Leaves u){lu r:Nat}(C:ei F h (er lu r (uC u vv vb vs)::cs))(M:CL F h u vv vb vs)(H:∀h',Q (.bool true) h') :
  j8 CS Q [.ptr lu 0,.I 0] h:=by
 have nv:=g.nv;obtain⟨I,s⟩:∃I:Nat->LP,I=λk l h'=>∃(F':Nat->Prop) (i:Nat),l=[.ptr lu 0,.I i]/\i+k=u.ef.length/\Sn F h F' h'/\ei F' h' (er lu r (uC u vv vb vs)::cs):=⟨_,rfl⟩
 refine vS I (λk x3 x4 h1 hi=>?_) (k:=u.ef.length) ?_;rotate_left
 ·rw[s];exact⟨F,0,rfl,by omega,Sn.refl _ _,C⟩
 rw[s]at hi;obtain⟨F1,i,⟨⟩,hk,t,f⟩:=hi;clear C;unfold mW;have u1:=M.since t;refine oF (f.ld 0 rfl rfl) (ed u1.v.len ?_);by_cases hi:i<u.ef.length;rotate_left
 ·exact ir (LQ g L f u1 H)
 refine gv ?_;have w:=ig hi;generalize u.ef[i]=x at*;obtain⟨l2,o2,xa,_,D,N,xs,O⟩:=u1.val w;have E:∀{p m},Sn F h p m->ei p m (er lu r (uC u vv vb vs)::cs)->iL CS Q (Bx I k) [.ptr lu 0,.I i] m:=λ{p m} P R=>by
  refine vg ?_;unfold mP;refine fM ⟨k-1,by omega,?_⟩;rw[s];exact⟨p,i+1,rfl,by omega,P,R⟩
 refine oF (f.ld 0 rfl rfl) (ed D (oF O.op ?_));have one:CO .u64 1:=⟨by decide,by decide⟩
 by_cases UR:3<=x.op/\x.op<=14;rotate_left
 ·exact TQ one one UR (ed rfl (ed rfl (ed rfl (iI (gw rfl (E t f))))))
 refine Vb one one UR (ed rfl (ed rfl (ed rfl (iI (fT (by simp) ?_)))));refine oF (f.ld 0 rfl rfl) (ed D (ed N (Gf f xs λF3 S xv G J r3=>?_)));have y:=t.trans G;have T:=u1.since G;have U:(g0 x).length<=2:=by rcases Ig UR.1 UR.2 with⟨_,e⟩|⟨_,e⟩ <;> rw[e] <;> simp
 refine vZ (λA l h'=>∃(j:Nat) (b:Bool),l=[.ptr lu 0,.I i,xv,.bool b,.I j]/\j+A=(g0 x).length/\h' = S/\(b=true->∀n a,n<j->(g0 x)[n]? =some a->∃z,u.ef[a]? =some z/\z.op=2)) ?_ (k:=(g0 x).length) ⟨0,true,rfl,by omega,rfl,λ_ n a h=>by omega⟩;rintro A _ _ _ _ _ V ⟨j,b,⟨⟩,W,rfl,K⟩;unfold mX;refine ed r3.len ?_;by_cases hj:j<(g0 x).length;rotate_left
 ·refine ir ?_
  cases b with
  |false=>exact iI (fT (by simp) (E y J))
  | true=>
    obtain⟨a,X,z,q,Y⟩:=L.ef i x w UR.1 UR.2;obtain⟨n,B⟩:=mm.1 X;obtain⟨z',o,m⟩:=K rfl n a (by have:=(jq.1 B).1;omega) B;rw[q]at o;cases o;exact absurd m Y
 refine gv ?_;have a1:=ig hj;generalize (g0 x)[j]=a at*;obtain⟨l3,o3,_,Z,p2⟩:=r3.nat a1 .i64;obtain⟨z,q,_⟩:=g.use i x w a (AI a1);obtain⟨l4,o4,za,_,z1,_,_,zl⟩:=T.val q;have cv:ey (.ptr lu (0+2)) V=some vv:=J.ld 0 rfl rfl;refine ed (a:= .bool (b&&decide (z.op=2))) ?_ (fM ⟨A-1,by omega,j+1,_,rfl,by omega,rfl,λd n c B hc=>?_⟩)
 ·simp only[fe,fJ,cv,Z,p2,z1,zl.op,ik,iD];congr 3;rw[Rc,IB,CH];omega
 ·rw[ve,CH]at d;by_cases e:n=j
  ·subst e;rw[a1]at hc;cases hc;exact⟨z,q,d.2⟩
  ·exact K d.1 n c (by omega) hc
theorem L4{ops a:List Int}{np:Int}{vo b:V}(l:ei F h cs)(c:iA (eI .i64) F h ops vo)(d:iA (eI .i64) F h a b)(m:ops.length<9223372036854775808)(H:∀h',Q (.bool true) h') :
  cP CS lF [.agg [vo,b,.I np]] h Q:=by
 refine ye rfl rfl ?_;unfold oL;refine nQ l (by simp only[ev,c.one,d.one];rfl) λI f g=>?_;refine ed (f.C9 0 rfl rfl) ?_;refine Xu f (c.since g) (d.since g) m λJ K i M n o=>?_;have p:Good (E6 ops a np):=TZ ops a np;have a0:yP (E6 ops a np):=λv x q=>Fe (Yn ops a np x (AI q)) (by decide);generalize E6 ops a np=N at*;obtain⟨r,s,t,rfl,y,i,z⟩:=o;refine Xr p a0 n.tail ⟨y,i,z⟩ λO A u vv vb vs P B e R=>?_;obtain⟨w,C,D,rfl⟩:=R.done;have L:=OB C D;refine iH B rfl rfl e.one λS j k=>?_;generalize A.next=lu at*;refine Rj (ed rfl (fK (ed (j.C9 0 rfl rfl) (xM ?_))));refine OI R.B0 j (e.since k) λT U E G=>?_;refine ed rfl (iI (fT (by simp) ?_));exact Md R.B0 L G ((e.since k).since E) H
end
