/- Parts. -/
import Derived.Test.YtflkbfabonggkaaGreatDoorM50
set_option maxHeartbeats 4000000
namespace Go.Proofs.YtflkbfabonggkaaGreatDoor.Hx
open Un Dm
def zdX(u:U):Prop:=(∀v,Unf u v)/\∀(b:Nat)(B:Bk)(n:Int),u.blocks[b]? =some B->B.fin=2->¬Kw u B.cond n
structure Pass (u:U) (c:Bool) (u1 u2:U) (az:List Int):Prop where
 DW:Good u1
 args:AN u1
 Jy:wY u u1
 func:u1.func=u.func
 pc:u1.pc=u.pc
 st:u2.eh=u.eh
 ops:∀p:Nat->Prop,p 2->(∀x∈u.ef,p x.op)->∀y∈u1.ef,p y.op
 nb:u1.blocks.length=u.blocks.length
 e:Lq u1 u2
 len:az.length=u1.ef.length
 fa:Tv u1 (mX az)
 mu:mu u2<=mu u
 less:c=true->Un.mu u2<Un.mu u\/∃v x,u1.ef[v]? =some x/\x.op≠2/\stays (mX az) v=false
 same:c=false->u2=u/\u1=u/\az=AV u/\zdX u
theorem MJ{u:U}{v:Nat}(h:v<u.ef.length):(AV u)[v]? =some (v:Int):=by
 unfold AV;rw[CH,List.getElem?_range h];rfl
theorem yz{az:List Int}{v:Nat}{a:Int}(h:az[v]? =some a):mX az v=a:=by
 unfold mX;rw[DY,h];rfl
theorem Ag.pass{u u2:U}{c:Bool}{az:List Int}(A:Ag u 4 c u2 az):∃u1,Pass u c u1 u2 az:=by
 obtain ⟨u1,D,c2,E,F,J,t,p1,p2,K,G,H,L,l,rfl,_,_,_,_⟩:=A;have p:J.length=u1.ef.length:=by
  cases c2 with
  |false=>rw[p1 rfl,Dv,t.len]
  | true=>
    obtain⟨v,r,_,q⟩:=p2 rfl;rw[q,LU,Dv,t.len]
 have M:az.length=u1.ef.length:=K.trans p;have cas:∀v,v<u1.ef.length->mX az v=(v:Int)\/(mX az v = -1/\YI u1 v)\/∃r:Nat,mX az v=(r:Int)/\PhO u1 v r/\∀w,w≠v->w<u1.ef.length->mX az w=(w:Int)\/(mX az w = -1/\YI u1 w):=λv hv=>by
  have k:v<u.ef.length:=by rw[<-t.len];exact hv
  rcases G v with h|⟨h,m⟩
  ·cases c2 with
   | false=>
     rw[p1 rfl,MJ k]at h
     exact .inl (yz h)
   | true=>
     obtain⟨N,r,hp,q⟩:=p2 rfl;by_cases e:v=N
     ·subst e
      rw[q,O9 (by rw[Dv];exact k)]at h;refine .inr (.inr ⟨r,yz h,hp,λw O s=>?_⟩);rcases G w with h'|⟨h',m⟩
      ·rw[q,Kk λz=>O z.symm,MJ (by rw[<-t.len];exact s)]at h'
       exact .inl (yz h')
      ·exact .inr ⟨yz h',m⟩
     ·rw[q,Kk λz=>e z.symm,MJ k]at h
      exact .inl (yz h)
  ·exact .inr (.inl ⟨yz h,m⟩)
 have out:∀v,u1.ef.length<=v->mX az v = -1:=λv hv=>by
  unfold mX;rw[DY,VM (by omega)];rfl
 refine⟨u1,t.DW,t.args,t.Jy,t.func,t.pc,l.e.eh.trans t.eh,t.ops,by rw[t.blocks],l.e,M,⟨out,λv r h=>?_,λv x a=>?_⟩,Ie l.mu t.mu,λhc=>?_,λhc=>?_⟩
 ·by_cases hv:v<u1.ef.length
  ·rcases cas v hv with i|⟨i,_⟩|⟨r',i,⟨x,a,d,f,C,_⟩,P⟩
   ·obtain rfl:r=v:=by omega
    exact h
   ·omega
   ·obtain rfl:r=r':=by omega
    obtain⟨y,j,m⟩:=t.DW.use v x a r (by unfold iH;rw[if_pos d];exact C);rcases P r f (jP.1 j).1 with Q|⟨_,Z,_,o,g,_⟩
    ·exact Q
    ·rw[j]at o;cases o;rw[g]at m;cases m
  ·have:=out v (by omega);omega
 ·rcases cas v (jP.1 a).1 with i|⟨i,y,n,j,g,hk,R⟩|⟨r,i,⟨y,j,d,f,C,S⟩,_⟩
  ·exact .inl i
  ·rw[a]at j;cases j;exact .inr (.inl ⟨i,g,n,hk,R⟩)
  ·rw[a]at j;cases j;exact .inr (.inr ⟨d,r,i,f,C,S⟩)
 ·have m1:=t.mu;have m2:=l.mu
  cases F with
  |true=>have:=l.less rfl;exact .inl (by omega)
  | false=>
    cases E with
    | true=>
      obtain⟨v,hv,h,x,n,a,g,_⟩:=L rfl;refine .inr ⟨v,x,a,by omega,?_⟩;unfold stays;rw[yz h,Ti]
      omega
    | false=>
      cases c2 with
      | true=>
        obtain⟨v,r,⟨x,a,d,f,_⟩,q⟩:=p2 rfl;have hv:=(jP.1 a).1;refine .inr ⟨v,x,a,by omega,?_⟩;unfold stays;rw[H rfl,q,yz (O9 (by rw[Dv,<-t.len];exact hv)),Ti]
        omega
      | false=>
        cases D with
        |true=>have:=t.less rfl;exact .inl (by omega)
        |false=>cases hc
 ·cases F <;> cases E <;> cases c2 <;> cases D <;> first|cases hc|skip
  obtain⟨T,V⟩:=t.same rfl;obtain⟨W,X⟩:=l.same rfl;subst T;subst W;refine⟨rfl,rfl,(H rfl).trans (p1 rfl),λv x n a=>?_,λb B n I Y=>?_⟩
  ·exact V v ⟨by decide,(jP.1 a).1⟩ x n a
  ·exact X b B n ⟨by decide,(jP.1 I).1⟩ I Y
open Un Dm
theorem UN{n:Nat}{nx:Nat->List Nat}{seen:List Bool}{post:List Nat}(G:HS n nx seen post []):∀(m:Nat)(l r:List Nat)(b:Nat),r.length<=m->post=l++b::r->∃p,Pt nx b p
 | m,l,r,b,hm,h=>by
   rcases G.early l b r h with rfl|⟨p,c,a|a⟩
   ·exact⟨_,.nil⟩
   ·obtain ⟨r1,d,rfl⟩:=List.append_of_mem a
    cases m with
    |zero=>simp at hm
    | succ m=>
      obtain⟨q,hq⟩:=UN G m (l++b::r1) d p (by simp at hm;omega) (by rw[h];simp);exact⟨_,.step hq c⟩
   ·cases a
section
variable{u u1 u2 w:U}{c:Bool}{az lO:List Int}{kp:Nat->Bool}{seen:List Bool}{post:List Nat}
structure Next (u:U) (c:Bool) (u':U):Prop where
 DW:Good u'
 args:AN u'
 Jy:wY u u'
 func:u'.func=u.func
 pc:u'.pc=u.pc
 ops:∀p:Nat->Prop,p 2->(∀x∈u.ef,p x.op)->∀y∈u'.ef,p y.op
 nb:u'.blocks.length<=u.blocks.length
 less:c=true->mu u' < mu u
theorem Pass.cut(p:Pass u c u1 u2 az)(G:HS u2.blocks.length (next u2) seen post [])(E:kp=λb=>post.reverse.contains b)(d:Cut u2 kp w)(m:LM u2 kp az lO):zU w lO/\Next u c (ic w (mX lO)):=by
 have g:=p.DW;have hk:∀b,kp b=true↔∃l,Pt (next u2) b l:=λb=>by
  rw[E,wBQ,wBH];refine⟨λh=>?_,λ⟨l,M⟩=>QA G M⟩;obtain⟨l,r,e⟩:=List.append_of_mem h;exact UN G _ l r b (iZ _) e
 have Gn:T0 u1 kp (mX az) (mX lO):=⟨λv b k j N=>yz (m.gone v b k ((L3 p.e).2 j) N (by rw[p.len];exact g.jE _ _ _ j)),λv O=>by
  have:=m.same v λ⟨b,k,t,o⟩=>O ⟨b,k,(L3 p.e).1 t,o⟩;unfold mX;rw[DY,DY,this]⟩
 have F:Gd w λv=>stays (mX lO) v=true:=MO g p.e hk d Gn.gone;have J:AN w:=λv P s=>by
  obtain⟨x,f,_⟩:=I2 g p.e d s;have z:u2.ef[v]? =some x:=by rw[p.e.ef];exact f
  by_cases h:x.op=21/\∃b k,At u2 v b k/\kp b=true
  ·obtain⟨t,b,k,o,Q⟩:=h;obtain⟨B,K,_⟩:=id o;obtain⟨A,R,_,hp,_⟩:=Ff p.e K;have:=d.CJ v b k x B o z t Q K;rw[s]at this;cases this;have hlen:=(g.CJ v b k x A ((L3 p.e).1 o) f t R).2;have:=p.args v x f;show((ry u2 kp b B.eQ).map _).length<=700;rw[DL];refine Ie (X6 _ _) ?_;rw[Tz,hp];omega
  ·have:=d.same v x z h;rw[s]at this;cases this;exact p.args v P f
 have H:lO.length=w.ef.length:=by rw[m.len,p.len,d.len,p.e.ef]
 have C:∀(v:Nat) (a:Int),lO[v]? =some a->a<lO.length:=λv a h=>by
  have hv:=(jP.1 h).1;by_cases h0:0<=a
  ·have L:=yz h;obtain⟨q,b,k,j,_⟩:=Nm g p.fa Gn (v:=v) (by rw[L];exact h0);rw[L]at q;rcases p.fa.cas v _ (gW (g.jE _ _ _ j))with t|⟨t,_⟩|⟨I,r,t,_,S,_⟩
   ·omega
   ·omega
   ·obtain⟨y,D,_⟩:=g.use v _ (gW (g.jE _ _ _ j)) r (by unfold iH;rw[if_pos I];exact S);have:=(jP.1 D).1;rw[m.len,p.len];omega
  ·omega
 refine⟨Qt F J H C,Xj g p.e hk d p.fa Gn,λi y D=>?_,p.Jy.trans (Xb g p.e hk d p.fa Gn),?_,?_,λq o h y D=>?_,?_,λhc=>?_⟩
 ·obtain⟨n,x,_,s,rfl,_⟩:=Eg F D;have:=J n x s;unfold ie;simp only;split
  ·rw[DL];exact this
  ·exact this
 ·show w.func=u.func;rw[d.func,p.e.func,p.func]
 ·show w.pc=u.pc;rw[d.pc,p.e.pc,p.pc]
 ·obtain⟨i,hi⟩:=mQ.1 D;obtain⟨n,x,_,s,rfl,_⟩:=Eg F hi;obtain⟨T,f,U,_⟩:=I2 g p.e d s;show q x.op;rw[U.op];exact p.ops q o h T (Dh f)
 ·show(w.blocks.map _).length<=_;have:=congrArg List.length (QI p.e d);rw[Tz,DL]at this;have:=X6 kp (List.range u1.blocks.length);rw[Tz]at this;have:=p.nb;rw[DL];omega
 ·obtain ⟨W,V⟩:=zam g p.e hk d (Cd:=mX lO) Gn.gone;have:=p.mu;rcases p.less hc with h|⟨v,x,s,o,hs⟩
  ·omega
  ·have:=V ⟨v,x,s,o,?_⟩
   ·omega
   ·unfold stays at hs⊢;rw[Ti]at hs⊢;intro q;obtain⟨X,_⟩:=Nm g p.fa Gn (v:=v) (by omega);omega
theorem Pass.ZZ(p:Pass u c u1 u2 az):RC u2/\G8 u2:=by
 have g:=p.DW;have sz:=Mv g p.args;have l:=PM g p.args;have m:∀{b:Nat} {B:Bk},u2.blocks[b]? =some B->B.next.length<=2:=λ{b B} a=>by
  obtain⟨A,d,_,_,_,h|⟨_,n,t,_,_,h⟩⟩:=Ff p.e a
  ·rw[h];exact CM g d
  ·rw[h];simp
 refine⟨⟨by rw[p.e.ef];exact sz.nv,by rw[p.e.len];exact sz.nb,by rw[p.e.eh];exact sz.ns,λv x f=>p.args v x (by rw[<-p.e.ef];exact f),λb B a=>?_,λs fs hs=>sz.st s fs (by rw[<-p.e.eh];exact hs)⟩,⟨⟨by rw[p.e.len];exact g.KC,by rw[p.e.len];exact g.nb,λb t o=>by rw[p.e.len];exact g.nx b t (NL p.e o),λb B a=>m a⟩,by rw[p.e.ef];exact g.nv,λv b k b' k' h h'=>g.Ju v b k b' k' ((L3 p.e).1 h) ((L3 p.e).1 h'),λv b k h=>by rw[p.e.ef];exact g.jE v b k ((L3 p.e).1 h),λb B a=>?_,λv b k x B i f j a=>?_,λv x f=>p.args v x (by rw[<-p.e.ef];exact f)⟩⟩
 ·obtain⟨A,d,hv,hp,_⟩:=Ff p.e a;obtain⟨a1,a2,_⟩:=sz.nf b A d;exact⟨by rw[hv];exact a1,by rw[hp];exact a2,m a⟩
 ·obtain⟨A,d,_,hp,_⟩:=Ff p.e a;obtain⟨a1,a2⟩:=l.pre b A d;rw[hp,p.e.len];exact⟨a1,a2⟩
 ·obtain⟨A,d,_,hp,_⟩:=Ff p.e a;rw[hp];exact l.CJ v b k x A ((L3 p.e).1 i) (by rw[<-p.e.ef];exact f) j d
end
open Un Dm
section
variable{F F':Nat->Prop}{h h':Hp}{cs ds:List Pc}{Q:ft}{u:U}{vv vb vs kG wv wb ws:V}{az:List Int}{lf:Nat}{xs:List (Vl×V)}{bs:List (Bk×V)}{ss:List (List (Fm×V×V))}{fa fn:Nat->Option (List Nat×V)}{fl:KF->Option (List Nat×V)}
theorem st5(H:ej F h cs)(i:Nat){l ty:Nat} {a b c d e f a' b' c' d' e':V}(hi:cs[i]? =some (ev l ty [a,b,c,d,e,f]))(j:gj [a',b',c',d',e']=true) :
  ∃h',gI 5 (.ptr l 0) (.agg [a',b',c',d',e']) h=some (.val .undef h')/\h.next<=h'.next/\ej F h' (cs.set i (ev l ty [a',b',c',d',e',f]))/\Sn F h F h':=by
 have g:=H.ok i _ hi;exact⟨_,Zo g.1 rfl (by simp) j,iZ _,H.DG hi (lN.put _ rfl g.2.1) ⟨gg _ g.2.1,g.2.1,g.2.2⟩ λ_ h=> .inl h⟩
theorem ej.zek(hc:ZG u.ef xs fa)(i:Xs u.blocks bs fn)(hs:CpS u.eh ss fl)(H:ej F h (eJ yA gL xs wv::eJ vS fI bs wb::eJ (eL QX) lX ss ws::fS eo fa::fS eo fn::fS eo fl::cs)) :
  ∃G,ej G h (eJ eV gL u.ef wv::eJ eK fI u.blocks wb::cs)/\Sn F h G h/\iy (eL eF) G h u.eh ws:=by
 have Hp:=H.perm [2,3,4,5,0,1] 6 (by decide) (by decide) (by simp);obtain⟨G,n,s4,g⟩:=Hp.RM 4;have e:∀l,F l->G l:=λl o=>s4.mono l o;have p:=n.Wh 0 (E':=eV) (ys:=u.ef) rfl rfl (by rw[<-hc.fst];simp) λk x y ws c b d=>by
  obtain⟨x,w⟩:=x;rw[<-hc.fst,CH,c]at b;cases b;obtain⟨rfl,_⟩:=d;exact⟨w,rfl,Lz H 3 rfl e (g 1 _ (by decide) rfl) (hc.row k x w c)⟩
 have q:=p.Wh 1 (E':=eK) (ys:=u.blocks) rfl rfl (by rw[<-i.fst];simp) λk x y ws c b d=>by
  obtain⟨x,w⟩:=x;rw[<-i.fst,CH,c]at b;cases b;obtain⟨bv,bp,rfl,r,ip,_⟩:=d;exact⟨bv,w,bp,rfl,r,Lz H 4 rfl e (g 2 _ (by decide) rfl) (i.row k x w c),ip⟩
 refine⟨G,q,s4,?_⟩;refine iy.ofRow H 2 rfl e (g 0 _ (by decide) rfl) rfl (by rw[<-hs.fst];simp) λk x y ws c b d=>?_;rw[<-hs.fst,CH,c]at b;cases b;obtain⟨f,rfl,s⟩:=d;refine⟨f,rfl,s.Wh rfl e (by simp) λj z y cs m b d=>?_⟩;rw[CH,m]at b;cases b;obtain⟨z,a,w⟩:=z;obtain⟨rfl,_,_⟩:=d;obtain⟨r1,t⟩:=hs.loc k x j z a w c m;exact⟨a,w,rfl,Lz H 5 rfl e (g 3 _ (by decide) rfl) r1,Lz H 5 rfl e (g 3 _ (by decide) rfl) t⟩
structure zdE (u u':U):Prop where
 DW:Good u'
 args:AN u'
 Jy:wY u u'
 func:u'.func=u.func
 pc:u'.pc=u.pc
 ops:∀p:Nat->Prop,p 2->(∀x∈u.ef,p x.op)->∀y∈u'.ef,p y.op
 nb:u'.blocks.length<=u.blocks.length
 done:∃w,Good w/\zdX w/\u' = ic w (mX (AV w))
theorem Vh(g:Good u)(ha:AN u)(H0:ej F h cs)(hu:DA F h u vv vb vs)
  (H:∀F' h' u' wv wb ws,Sn F h F' h'->ej F' h' cs->DA F' h' u' wv wb ws->zdE u u'->Q (.agg (uC u' wv wb ws)) h') :
  cP CS yH [.agg (uC u vv vb vs)] h Q:=by
 refine RB rfl rfl ?_;unfold Lm;refine ml H0 hu.one λh1 H1 s1=>AU H1 λC H2 s2=>?_;generalize h.next=l1 at*;generalize h1.next=l2 at*;have u2:=(hu.since s1).since s2;refine ed (H2.zb 1 rfl rfl) (Zt g H2 u2 λF3 h3 s3 H3=>PQ (iO (fU (by simp) (ed (H3.zb 1 rfl rfl) ?_))));refine UW (Mv g ha) H3 (u2.since s3) λF4 h4 wv wb ws xs bs ss fa fn fl s4 hc hb hs H4=>?_;obtain⟨G,H5,s5,r5⟩:=H4.zek hc hb hs;refine ed (show _=some (V.agg [.I u.func,.I u.pc,wv,wb,ws,.ee]) from rfl) ?_;refine ml H5 (by simp only[ey,H5.one 0 rfl,H5.one 1 rfl,r5.one];rfl) λh6 H6 s6=>?_;generalize h4.next=lf at*;have aa:=((((s1.trans s2).trans s3).trans s4).trans s5).trans s6;obtain⟨z2,K⟩:∃z2:List V,z2=[.I 0,.I 0,.ee,.ee,.ee]:=⟨_,rfl⟩
 obtain ⟨I,hI⟩:∃I:Nat->LP,I=λk l h'=>∃(F':Nat->Prop) (u':U) (av xv Y xs:V),l=[.ptr l2 0,.ptr lf 0]/\mu u'<=k/\Sn F h F' h'/\Good u'/\AN u'/\wY u u'/\u'.func=u.func/\u'.pc=u.pc/\(∀p:Nat->Prop,p 2->(∀x∈u.ef,p x.op)->∀y∈u'.ef,p y.op)/\u'.blocks.length<=u.blocks.length/\av.one=true/\iy (eL eF) F' h' u'.eh xs/\
   ej F' h' (ev lf JL [.I u'.func,.I u'.pc,xv,Y,xs,av]::eJ eV gL u'.ef xv::eJ eK fI u'.blocks Y::ev l2 hV z2::ev l1 hV (uC u vv vb vs)::cs):=⟨_,rfl⟩
 refine M4 I (λk x2 x3 h7 hi=>?_) (k:=mu u) (by
  rw[hI,K];exact⟨G,u,.ee,wv,wb,ws,rfl,iZ _,aa,g,ha,.refl _,rfl,rfl,λ_ _ h=>h,iZ _,rfl,r5.since s6,H6⟩)
 rw[hI]at hi;obtain⟨F7,u7,av,xv,Y,xs,⟨⟩,hm,s7,L,a7,d7,M,N,O,P,ab,r7,H7⟩:=hi;unfold GI;refine Y5 L a7 r7.one ab H7 λF8 h8 u8 ac ae c s8 t A=>?_;obtain⟨u1,p⟩:=A.pass;obtain⟨sz,gc⟩:=p.ZZ;have rs:iy (eL eF) F8 h8 u8.eh xs:=by rw[p.st];exact r7.since s8
 have R:ae.length=u8.ef.length:=by rw[p.len,p.e.ef]
 have S:gj (uC u8 xv Y xs)=true:=by simp only[uC,ey,t.one 1 rfl,t.one 2 rfl,rs.one];rfl
 cases c with
 | true=>
   refine iO (gi rfl (ed pn (ed pf (ed (ld5 t 0 rfl) (oN (t.ld 0 rfl rfl) ?_)))));obtain⟨Z,D,q9⟩:=t.jI 1 rfl;obtain⟨o,j,z⟩:=Z.jI 2 rfl;have o:=o.perm [3,0,4,5] 6 (by decide) (by decide) (by simp);refine RJ sz gc R (λkp w lO seen post G d a f=>(p.cut G d a f).1) o ⟨q9.since j,z,(rs.since D).since j⟩ λag ah kp w lO seen post E J ys m i G d a f r11=>⟨m.next,ed pn (ed pf ?_)⟩
   obtain⟨_,nx⟩:=p.cut G d a f;generalize ic w (mX lO)=r at*;obtain⟨ai,aj,ak,B,s⟩:=st5 (a':= .I r.func) (b':= .I r.pc) (c':=E) (d':=J) (e':=ys) i 2 rfl (by simp only[ey,i.one 0 rfl,i.one 1 rfl,r11.one];rfl);rw[show gI 5 (.ptr lf (0+0)) (.agg (uC r E J ys)) ah=_ from aj,ei];refine⟨ak,mu r,by have:=nx.less rfl;omega,?_⟩;rw[hI];have T:=(((s8.trans D).trans j).trans m).trans s
   exact⟨ag,r,ac,E,J,ys,rfl,iZ _,s7.trans T,nx.DW,nx.args,d7.trans nx.Jy,nx.func.trans M,nx.pc.trans N,λq C h=>nx.ops q C (O q C h),Ie nx.nb P,(t.one 3 rfl),r11.since s,B.perm [2,0,1,3,4] 5 (by decide) (by decide) (by simp)⟩
 | false=>
   obtain⟨rfl,rfl,rfl,dn⟩:=p.same rfl;refine iO (fU (by simp) (ed pn (ed pf (ed (ld5 t 0 rfl) (ed pn (ed pf (ed (ld5 t 0 rfl) (VG S (t.len 1 rfl) L.nv t λh9 aq D Z=>⟨D.next,ld5 Z 1 rfl,?_⟩))))))));have r9:=rs.since D;obtain⟨o,j,z⟩:=Z.jI 2 rfl;obtain⟨i,m,al⟩:=o.jI 3 rfl;have i:=i.perm [0,5,6] 7 (by decide) (by decide) (by simp);refine Zr sz gc R (λkp w lO seen post G d a f=>(p.cut G d a f).1) i ⟨z.since m,al,(r9.since j).since m⟩ λam ai kp w lO seen post E J ys s B G d a f r12=>⟨s.next,?_⟩
   obtain ⟨_,nx⟩:=p.cut G d a f;have v:∀b,b<u1.blocks.length->kp b=true:=λb hb=>by
     obtain⟨l,hl⟩:=L.reach b hb;rw[d,wBQ,wBH];exact QA G hl
   obtain rfl:=a.eq L v;obtain rfl:=f.eq v;subst K;obtain⟨an,ao,ap,W,X⟩:=B.Zx 0 (ws:=uC (ic w (mX (AV w))) E J ys) (n:=5) rfl rfl rfl r12.one;rw[ao,ei];refine⟨ap,ed (W.zb 0 rfl rfl) ?_⟩;exact H am an _ E J ys ((((((s7.trans s8).trans D).trans j).trans m).trans s).trans X) W.tail.tail (r12.since X) ⟨nx.DW,nx.args,d7.trans nx.Jy,nx.func.trans M,nx.pc.trans N,λq C h=>nx.ops q C (O q C h),Ie nx.nb P,w,L,dn,rfl⟩
end
