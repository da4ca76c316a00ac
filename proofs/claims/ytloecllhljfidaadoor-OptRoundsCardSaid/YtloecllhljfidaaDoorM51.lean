/- Parts. -/
import Derived.Test.YtloecllhljfidaaDoorM50
set_option maxHeartbeats 4000000
namespace Go.Proofs.YtloecllhljfidaaDoor.Hx
open Un Dm
def zcF(u:U):Prop:=(∀v,Unf u v)/\∀(b:Nat)(B:Bk)(n:Int),u.blocks[b]? =some B->B.fin=2->¬Kw u B.cond n
structure Pass (u:U) (c:Bool) (u1 u2:U) (az:List Int):Prop where
 BB:Good u1
 args:oh u1
 JF:tQ u u1
 func:u1.func=u.func
 pc:u1.pc=u.pc
 st:u2.eh=u.eh
 ops:∀p:Nat->Prop,p 2->(∀x∈u.ef,p x.op)->∀y∈u1.ef,p y.op
 nb:u1.blocks.length=u.blocks.length
 e:Hg u1 u2
 len:az.length=u1.ef.length
 fa:Sq u1 (iL az)
 mu:mu u2<=mu u
 less:c=true->Un.mu u2<Un.mu u\/∃v x,u1.ef[v]? =some x/\x.op≠2/\stays (iL az) v=false
 same:c=false->u2=u/\u1=u/\az=vt u/\zcF u
theorem Hv{u:U}{v:Nat}(h:v<u.ef.length):(vt u)[v]? =some (v:Int):=by
 unfold vt;rw[xk,wBm h];rfl
theorem tw{az:List Int}{v:Nat}{a:Int}(h:az[v]? =some a):iL az v=a:=by
 unfold iL;rw[CM,h];rfl
theorem AgX.pass{u u1 u2:U}{c o c2 p s:Bool}{az G:List Int}(A:AgX u 4 c u2 az u1 o c2 p s G):Pass u c u1 u2 az:=by
 obtain ⟨t,p1,C,K,H,I,L,k,rfl,_,_,_,_⟩:=A;have D:G.length=u1.ef.length:=by
  cases c2 with
  |false=>rw[p1 rfl,Au,t.len]
  | true=>
    obtain⟨v,r,_,q⟩:=C rfl;rw[q,Lm,Au,t.len]
 have M:az.length=u1.ef.length:=K.trans D;have cas:∀v,v<u1.ef.length->iL az v=(v:Int)\/(iL az v = -1/\OB u1 v)\/∃r:Nat,iL az v=(r:Int)/\VK u1 v r/\∀w,w≠v->w<u1.ef.length->iL az w=(w:Int)\/(iL az w = -1/\OB u1 w):=λv hv=>by
  have j:v<u.ef.length:=by rw[<-t.len];exact hv
  rcases H v with h|⟨h,l⟩
  ·cases c2 with
   | false=>
     rw[p1 rfl,Hv j]at h
     exact .inl (tw h)
   | true=>
     obtain⟨N,r,O,q⟩:=C rfl;by_cases e:v=N
     ·subst e
      rw[q,Mt (by rw[Au];exact j)]at h;refine .inr (.inr ⟨r,tw h,O,λw P E=>?_⟩);rcases H w with h'|⟨h',l⟩
      ·rw[q,IB λz=>P z.symm,Hv (by rw[<-t.len];exact E)]at h'
       exact .inl (tw h')
      ·exact .inr ⟨tw h',l⟩
     ·rw[q,IB λz=>e z.symm,Hv j]at h
      exact .inl (tw h)
  ·exact .inr (.inl ⟨tw h,l⟩)
 have out:∀v,u1.ef.length<=v->iL az v = -1:=λv hv=>by
  unfold iL;rw[CM,JA (by omega)];rfl
 refine⟨t.BB,t.args,t.JF,t.func,t.pc,k.e.eh.trans t.eh,t.ops,by rw[t.blocks],k.e,M,⟨out,λv r h=>?_,λv x hx=>?_⟩,BX k.mu t.mu,λhc=>?_,λhc=>?_⟩
 ·by_cases hv:v<u1.ef.length
  ·rcases cas v hv with g|⟨g,_⟩|⟨r',g,⟨x,hx,a,d,F,_⟩,Q⟩
   ·obtain rfl:r=v:=by omega
    exact h
   ·omega
   ·obtain rfl:r=r':=by omega
    obtain⟨y,i,l⟩:=t.BB.use v x hx r (by unfold gO;rw[if_pos a];exact F);rcases Q r d (jk.1 i).1 with R|⟨_,y',_,m,f,_⟩
    ·exact R
    ·rw[i]at m;cases m;rw[f]at l;cases l
  ·have:=out v (by omega);omega
 ·rcases cas v (jk.1 hx).1 with g|⟨g,y,n,i,f,hk,S⟩|⟨r,g,⟨y,i,a,d,F,T⟩,_⟩
  ·exact .inl g
  ·rw[hx]at i;cases i;exact .inr (.inl ⟨g,f,n,hk,S⟩)
  ·rw[hx]at i;cases i;exact .inr (.inr ⟨a,r,g,d,F,T⟩)
 ·have m1:=t.mu;have m2:=k.mu
  cases s with
  |true=>have:=k.less rfl;exact .inl (by omega)
  | false=>
    cases p with
    | true=>
      obtain⟨v,hv,h,x,n,hx,f,_⟩:=L rfl;refine .inr ⟨v,x,hx,by omega,?_⟩;unfold stays;rw[tw h,SJ]
      omega
    | false=>
      cases c2 with
      | true=>
        obtain⟨v,r,⟨x,hx,a,d,_⟩,q⟩:=C rfl;have hv:=(jk.1 hx).1;refine .inr ⟨v,x,hx,by omega,?_⟩;unfold stays;rw[I rfl,q,tw (Mt (by rw[Au,<-t.len];exact hv)),SJ]
        omega
      | false=>
        cases o with
        |true=>have:=t.less rfl;exact .inl (by omega)
        |false=>cases hc
 ·cases s <;> cases p <;> cases c2 <;> cases o <;> first|cases hc|skip
  obtain⟨V,W⟩:=t.same rfl;obtain⟨X,Y⟩:=k.same rfl;subst V;subst X;refine⟨rfl,rfl,(I rfl).trans (p1 rfl),λv x n hx=>?_,λb B n J Z=>?_⟩
  ·exact W v ⟨by decide,(jk.1 hx).1⟩ x n hx
  ·exact Y b B n ⟨by decide,(jk.1 J).1⟩ J Z
open Un Dm
theorem OO{n:Nat}{nx:Nat->List Nat}{seen:List Bool}{post:List Nat}(G:CL n nx seen post []):∀(m:Nat)(l r:List Nat)(b:Nat),r.length<=m->post=l++b::r->∃p,Pt nx b p
 | m,l,r,b,hm,h=>by
   rcases G.early l b r h with rfl|⟨p,c,a|a⟩
   ·exact⟨_,.nil⟩
   ·obtain ⟨r1,r2,rfl⟩:=wB7 a
    cases m with
    |zero=>simp at hm
    | succ m=>
      obtain⟨q,hq⟩:=OO G m (l++b::r1) r2 p (by simp at hm;omega) (by rw[h];simp);exact⟨_,.step hq c⟩
   ·cases a
section
variable{u u1 u2 w:U}{c:Bool}{az iR:List Int}{kp:Nat->Bool}{seen:List Bool}{post:List Nat}
structure Next (u:U) (c:Bool) (u':U):Prop where
 BB:Good u'
 args:oh u'
 JF:tQ u u'
 func:u'.func=u.func
 pc:u'.pc=u.pc
 ops:∀p:Nat->Prop,p 2->(∀x∈u.ef,p x.op)->∀y∈u'.ef,p y.op
 nb:u'.blocks.length<=u.blocks.length
 less:c=true->mu u' < mu u
theorem Pass.cut(p:Pass u c u1 u2 az)(G:CL u2.blocks.length (next u2) seen post [])(D:kp=λb=>post.reverse.contains b)(d:Cut u2 kp w)(m:Ce u2 kp az iR):xR w iR/\Next u c (gG w (iL iR)):=by
 have g:=p.BB;have hk:∀b,kp b=true↔∃l,Pt (next u2) b l:=λb=>by
  rw[D,wBG,Xq];refine⟨λh=>?_,λ⟨l,L⟩=>HY G L⟩;obtain⟨l,r,e⟩:=wB7 h;exact OO G _ l r b (jb _) e
 have Gn:Sl u1 kp (iL az) (iL iR):=⟨λv b k j hb=>tw (m.gone v b k ((JH p.e).2 j) hb (by rw[p.len];exact g.jz _ _ _ j)),λv M=>by
  have:=m.same v λ⟨b,k,s,o⟩=>M ⟨b,k,(JH p.e).1 s,o⟩;unfold iL;rw[CM,CM,this]⟩
 have E:Gd w λv=>stays (iL iR) v=true:=L4 g p.e hk d Gn.gone;have I:oh w:=λv N hx=>by
  obtain⟨x,f,_⟩:=Gz g p.e d hx;have t:u2.ef[v]? =some x:=by rw[p.e.ef];exact f
  by_cases h:x.op=21/\∃b k,At u2 v b k/\kp b=true
  ·obtain⟨s,b,k,o,O⟩:=h;obtain⟨B,J,_⟩:=id o;obtain⟨A,P,_,Q,_⟩:=Cc p.e J;have:=d.Ae v b k x B o t s O J;rw[hx]at this;cases this;have hlen:=(g.Ae v b k x A ((JH p.e).1 o) f s P).2;have:=p.args v x f;show((qu u2 kp b B.ez).map _).length<=700;rw[B5];refine BX (U7 _ _) ?_;rw[SB,Q];omega
  ·have:=d.same v x t h;rw[hx]at this;cases this;exact p.args v N f
 have F:iR.length=w.ef.length:=by rw[m.len,p.len,d.len,p.e.ef]
 have z:∀(v:Nat) (a:Int),iR[v]? =some a->a<iR.length:=λv a h=>by
  have hv:=(jk.1 h).1;by_cases h0:0<=a
  ·have K:=tw h;obtain⟨q,b,k,j,_⟩:=L1 g p.fa Gn (v:=v) (by rw[K];exact h0);rw[K]at q;rcases p.fa.cas v _ (g0 (g.jz _ _ _ j))with s|⟨s,_⟩|⟨H,r,s,_,R,_⟩
   ·omega
   ·omega
   ·obtain⟨y,C,_⟩:=g.use v _ (g0 (g.jz _ _ _ j)) r (by unfold gO;rw[if_pos H];exact R);have:=(jk.1 C).1;rw[m.len,p.len];omega
  ·omega
 refine⟨GM E I F z,U8 g p.e hk d p.fa Gn,λi y C=>?_,p.JF.trans (UN g p.e hk d p.fa Gn),?_,?_,λq o h y C=>?_,?_,λhc=>?_⟩
 ·obtain⟨n,x,_,hx,rfl,_⟩:=Ai E C;have:=I n x hx;unfold gW;simp only;split
  ·rw[B5];exact this
  ·exact this
 ·show w.func=u.func;rw[d.func,p.e.func,p.func]
 ·show w.pc=u.pc;rw[d.pc,p.e.pc,p.pc]
 ·obtain⟨i,hi⟩:=mr.1 C;obtain⟨n,x,_,hx,rfl,_⟩:=Ai E hi;obtain⟨S,f,T,_⟩:=Gz g p.e d hx;show q x.op;rw[T.op];exact p.ops q o h S (yC f)
 ·show(w.blocks.map _).length<=_;have:=congrArg List.length (NM p.e d);rw[SB,B5]at this;have:=U7 kp (List.range u1.blocks.length);rw[SB]at this;have:=p.nb;rw[B5];omega
 ·obtain ⟨V,U⟩:=YA g p.e hk d (oX:=iL iR) Gn.gone;have:=p.mu;rcases p.less hc with h|⟨v,x,hx,o,hs⟩
  ·omega
  ·have:=U ⟨v,x,hx,o,?_⟩
   ·omega
   ·unfold stays at hs⊢;rw[SJ]at hs⊢;intro q;obtain⟨W,_⟩:=L1 g p.fa Gn (v:=v) (by omega);omega
theorem Pass.YS(p:Pass u c u1 u2 az):M0 u2/\EH u2:=by
 have g:=p.BB;have sz:=vL g p.args;have l:=Ht g p.args;have m:∀{b:Nat} {B:Bk},u2.blocks[b]? =some B->B.next.length<=2:=λ{b B} a=>by
  obtain⟨A,d,_,_,_,h|⟨_,n,t,_,_,h⟩⟩:=Cc p.e a
  ·rw[h];exact ID g d
  ·rw[h];simp
 refine⟨⟨by rw[p.e.ef];exact sz.nv,by rw[p.e.len];exact sz.nb,by rw[p.e.eh];exact sz.ns,λv x hx=>p.args v x (by rw[<-p.e.ef];exact hx),λb B a=>?_,λs fs hs=>sz.st s fs (by rw[<-p.e.eh];exact hs)⟩,⟨⟨by rw[p.e.len];exact g.JN,by rw[p.e.len];exact g.nb,λb t ht=>by rw[p.e.len];exact g.nx b t (Kx p.e ht),λb B a=>m a⟩,by rw[p.e.ef];exact g.nv,λv b k b' k' h h'=>g.AH v b k b' k' ((JH p.e).1 h) ((JH p.e).1 h'),λv b k h=>by rw[p.e.ef];exact g.jz v b k ((JH p.e).1 h),λb B a=>?_,λv b k x B i hx j a=>?_,λv x hx=>p.args v x (by rw[<-p.e.ef];exact hx)⟩⟩
 ·obtain⟨A,d,hv,f,_⟩:=Cc p.e a;obtain⟨a1,a2,_⟩:=sz.vf b A d;exact⟨by rw[hv];exact a1,by rw[f];exact a2,m a⟩
 ·obtain⟨A,d,_,f,_⟩:=Cc p.e a;obtain⟨a1,a2⟩:=l.pre b A d;rw[f,p.e.len];exact⟨a1,a2⟩
 ·obtain⟨A,d,_,f,_⟩:=Cc p.e a;rw[f];exact l.Ae v b k x A ((JH p.e).1 i) (by rw[<-p.e.ef];exact hx) j d
end
open Un Dm
section
variable{F F':Nat->Prop}{h h':Hp}{cs ds:List Pc}{Q:fq}{u:U}{vv vb vs iQ wv wb ws:V}{az:List Int}{lf:Nat}{xs:List (Vl×V)}{bs:List (Bk×V)}{ss:List (List (Fm×V×V))}{fa fn:Nat->Option (List Nat×V)}{fl:KF->Option (List Nat×V)}
theorem st5(H:ej F h cs)(i:Nat){l ty:Nat} {a b c d e f a' b' c' d' e':V}(hi:cs[i]? =some (er l ty [a,b,c,d,e,f]))(j:fZ [a',b',c',d',e']=true) :
  ∃h',gh 5 (.ptr l 0) (.agg [a',b',c',d',e']) h=some (.val .undef h')/\h.next<=h'.next/\ej F h' (cs.set i (er l ty [a',b',c',d',e',f]))/\Sn F h F h':=by
 have g:=H.ok i _ hi;exact⟨_,Wc g.1 rfl (by simp) j,jb _,H.zL hi (lO.put _ rfl g.2.1) ⟨fP _ g.2.1,g.2.1,g.2.2⟩ λ_ h=> .inl h⟩
theorem ej.zcz(hc:VZ u.ef xs fa)(hb:UX u.blocks bs fn)(hs:ZC u.eh ss fl)(H:ej F h (ev vE gi xs wv::ev ta fo bs wb::ev (eL OP) kJ ss ws::fH en fa::fH en fn::fH en fl::cs)) :
  ∃G,ej G h (ev eV gi u.ef wv::ev eK fo u.blocks wb::cs)/\Sn F h G h/\iG (eL eF) G h u.eh ws:=by
 have Hp:=H.perm [2,3,4,5,0,1] 6 (by decide) (by decide) (by simp);obtain⟨G,m,g,e⟩:=Hp.Ls 4;have d:∀l,F l->G l:=λl n=>g.mono l n;have o:=m.Uw 0 (E':=eV) (ys:=u.ef) rfl rfl (by rw[<-hc.fst];simp) λk x y ws hx b c=>by
  obtain⟨x,w⟩:=x;rw[<-hc.fst,xk,hx]at b;cases b;obtain⟨rfl,_⟩:=c;exact⟨w,rfl,B4 H 3 rfl d (e 1 _ (by decide) rfl) (hc.row k x w hx)⟩
 have p:=o.Uw 1 (E':=eK) (ys:=u.blocks) rfl rfl (by rw[<-hb.fst];simp) λk x y ws hx b c=>by
  obtain⟨x,w⟩:=x;rw[<-hb.fst,xk,hx]at b;cases b;obtain⟨q,r,rfl,s,ip,_⟩:=c;exact⟨q,w,r,rfl,s,B4 H 4 rfl d (e 2 _ (by decide) rfl) (hb.row k x w hx),ip⟩
 refine⟨G,p,g,?_⟩;refine iG.ofRow H 2 rfl d (e 0 _ (by decide) rfl) rfl (by rw[<-hs.fst];simp) λk x y ws hx b c=>?_;rw[<-hs.fst,xk,hx]at b;cases b;obtain⟨f,rfl,t⟩:=c;refine⟨f,rfl,t.Uw rfl d (by simp) λj z y cs i b c=>?_⟩;rw[xk,i]at b;cases b;obtain⟨z,a,w⟩:=z;obtain⟨rfl,_,_⟩:=c;obtain⟨r1,r2⟩:=hs.loc k x j z a w hx i;exact⟨a,w,rfl,B4 H 5 rfl d (e 3 _ (by decide) rfl) r1,B4 H 5 rfl d (e 3 _ (by decide) rfl) r2⟩
structure zcd (u u':U):Prop where
 BB:Good u'
 args:oh u'
 JF:tQ u u'
 func:u'.func=u.func
 pc:u'.pc=u.pc
 ops:∀p:Nat->Prop,p 2->(∀x∈u.ef,p x.op)->∀y∈u'.ef,p y.op
 nb:u'.blocks.length<=u.blocks.length
 done:∃w,Good w/\zcF w/\u' = gG w (iL (vt w))
end
