/- Parts. -/
import Derived.Test.YtpnddokajmjpbaaDoorM28
namespace Go.Proofs.YtpnddokajmjpbaaDoor.Hx
open Go.Proofs.YtpnddokajmjpbaaDoor.Un Go.Proofs.YtpnddokajmjpbaaDoor.Dm
def nQ.fix {α:Type}(E:nQ α)(F:Nat->Prop)(h:Hp):nQ α where
 sz:=E.sz
 rel _ _ x cs:=E.rel F h x cs
 len h:=E.len h
 one h:=E.one h
 fc _ h:=h
 mono _ h:=h
section
variable{F F':Nat->Prop}{h h':Hp}{cs ds:List Pc}{Q:fx}{u:U}{vv vb vs:V}
theorem ei.Vw {α:Type}{E:nQ α}{ty:Nat}{xs:List α}{v:V}(H:ei F h cs)(i:Nat)(hi:cs[i]? =some (eQ E ty xs v)){k:Nat}{x:α}(c:xs[k]? =some x)(kd:IntKind) :
  ∃l o w,gD E.sz v (.int kd k)=some (.ptr l o)/\gg E.sz (.ptr l o) h=some (.agg w)/\E.rel F h x w/\∀j u,w[j]? =some u->ev (.ptr l (o+j)) h=some u:=by
 obtain⟨d,rfl⟩:=iB.1 c;have a:=(iB.1 hi).1;exact(H.Xe (E':=E.fix F h) i hi rfl rfl λk x y cs hx b e=>by rw[hx]at b;cases b;exact e).ix i (Ct a) d kd
theorem ld5 {l ty:Nat}{a b c d e f:V}(H:ei F h cs)(i:Nat)(hi:cs[i]? =some (eo l ty [a,b,c,d,e,f])):gg 5 (.ptr l 0) h=some (.agg [a,b,c,d,e]):=by
 rw[yW (H.get i hi)];rfl
theorem ei.UH (H:ei F h cs)(i j:Nat) {ty d:Nat}{bs:List (Bk×V)}{fn:Nat->Option (List Nat×V)}{wb:V}{l:List Bk}(hi:cs[i]? =some (eQ tO ty bs wb))(e:cs[j]? =some (fJ d fn))(hc:Tq l bs fn):ik eK (λl=>F l\/Kl cs l) h l wb:=by
 refine(H.row i hi).read.Xe rfl (λm c=>c.imp id λc=>⟨i,_,hi,c⟩) (by rw[<-hc.fst,Fk]) λk x y ws hx f g=>?_;rw[<-hc.fst,wq,hx]at f;cases f;have n:=(H.rows j e (hc.row k x.1 x.2 hx)).VG (F':=λl=>F l\/Kl cs l) (λ_ h=> .inl h) λm c=> .inr ⟨j,_,e,k,_,_,hc.row k x.1 x.2 hx,c⟩;obtain⟨a,b,o,p,q,_⟩:=g;exact⟨a,x.2,b,o,p.mono λm c=>c.imp id λc=>⟨i,_,hi,c⟩,n,q.mono λm c=>c.imp id λc=>⟨i,_,hi,c⟩⟩
end
structure Jf (u:U):Prop where
 walk:Yx u
 nv:u.ee.length<=3000
 EI:∀(v:Nat) (b:Nat) (k:Nat) (a:Nat) (k':Nat),At u v b k->At u v a k'->b=a/\k=k'
 l0:∀(v:Nat) (b:Nat) (k:Nat),At u v b k->v<u.ee.length
 pre:∀(b:Nat) (B:Bk),u.blocks[b]? =some B->B.fe.length<=700/\∀p∈B.fe,p<u.blocks.length
 IE:∀(v b k:Nat) (x:Vl) (B:Bk),At u v b k->u.ee[v]? =some x->x.op=21->u.blocks[b]? =some B->x.args.length=B.fe.length
 args:∀(v:Nat) (x:Vl),u.ee[v]? =some x->x.args.length<=700
structure OU (u:U) (kp:Nat->Bool) (D:Nat->Prop) (xs:List (Vl×V)) (fa:Nat->Option (List Nat×V)):Prop where
 len:xs.length=u.ee.length
 out:∀i,u.ee.length<=i->fa i=none
 IE:∀(v b k:Nat) (x:Vl) (B:Bk),D v->At u v b k->u.ee[v]? =some x->x.op=21->u.blocks[b]? =some B->∃w,xs[v]? =some ({x with args:=uB u kp b B.fe x.args},w)/\fa v=some (uB u kp b B.fe x.args,w)
 same:∀(v:Nat) (x:Vl),u.ee[v]? =some x->¬(x.op=21/\D v)->∃w,xs[v]? =some (x,w)/\fa v=some (x.args,w)
structure XZ (D:Nat->Prop) (az a:List Int):Prop where
 len:a.length=az.length
 gone:∀(v:Nat),D v->v<az.length->a[v]? =some (-1)
 same:∀(v:Nat),¬D v->a[v]? =az[v]?
theorem OU.more {D D':Nat->Prop}{u:U}{kp:Nat->Bool}{xs:List (Vl×V)}{fa:Nat->Option (List Nat×V)}(c:OU u kp D xs fa)(h:∀v,D' v->D v\/∃x,u.ee[v]? =some x/\x.op≠21)(e:∀v,D v->D' v):OU u kp D' xs fa where
 len:=c.len
 out:=c.out
 IE v b k x B hD hat hx hop hB:=by
  rcases h v hD with a|⟨y,a,d⟩
  ·exact c.IE v b k x B a hat hx hop hB
  ·rw[hx]at a;cases a;exact absurd hop d
 same v x hx hn:=c.same v x hx λ⟨a,d⟩=>hn ⟨a,e v d⟩
theorem OU.put {D:Nat->Prop}{u:U}{kp:Nat->Bool}{xs:List (Vl×V)}{fa:Nat->Option (List Nat×V)}(g:Jf u)(c:OU u kp D xs fa){v b k:Nat}{x:Vl}{B:Bk}(d:At u v b k)(hx:u.ee[v]? =some x)(f:x.op=21)(j:u.blocks[b]? =some B)(w:V) :
  OU u kp (λa=>D a\/a=v) (xs.set v ({x with args:=uB u kp b B.fe x.args},w)) (up fa v (some (uB u kp b B.fe x.args,w))) where
 len:=by rw[Nu];exact c.len
 out i hi:=by
  have:=(iB.1 hx).1;rw[iz _ _ (by omega)];exact c.out i hi
 IE a b' k' y B' hD hat' hy hop' hB':=by
  by_cases e:a=v
  ·subst e;obtain⟨rfl,rfl⟩:=g.EI _ _ _ _ _ d hat';rw[hx]at hy;cases hy;rw[j]at hB';cases hB';exact⟨w,Ct (by rw[c.len];exact(iB.1 hx).1),im _ _ _⟩
  ·rw[AR λh=>e h.symm,iz _ _ e];exact c.IE a b' k' y B' (hD.resolve_right e) hat' hy hop' hB'
 same a y hy hn:=by
  by_cases e:a=v
  ·subst e;rw[hx]at hy;cases hy;exact absurd ⟨f,.inr rfl⟩ hn
  ·rw[AR λh=>e h.symm,iz _ _ e];exact c.same a y hy λ⟨l,m⟩=>hn ⟨l,.inl m⟩
theorem XZ.congr {D D':Nat->Prop} {az a:List Int}(c:XZ D az a)(h:∀v,D v↔D' v):XZ D' az a:=
 ⟨c.len,λv hv=>c.gone v ((h v).2 hv),λv hv=>c.same v λb=>hv ((h v).1 b)⟩
theorem XZ.put {D:Nat->Prop} {az b:List Int}(c:XZ D az b)(v:Nat):XZ (λa=>D a\/a=v) az (b.set v (-1)) where
 len:=by rw[Nu];exact c.len
 gone a ha hl:=by
  by_cases e:a=v
  ·subst e;exact Ct (by rw[c.len];exact hl)
  ·rw[AR λh=>e h.symm];exact c.gone a (ha.resolve_right e) hl
 same a ha:=by
  rw[AR λh=>ha (.inr h.symm)];exact c.same a λh=>ha (.inl h)
def AW (u:U)(kp:Nat->Bool)(c:Bool)(i j:Nat)(v:Nat):Prop:=(∃b k,b<i/\kp b=c/\At u v b k)\/∃k,k<j/\At u v i k
section
variable{F F':Nat->Prop}{h h':Hp}{cs ds:List Pc}{Q:fx}{u:U}
theorem ei.Ye {ty:Nat}{xs:List Nat}{v q:V}(H:ei F h cs)(i:Nat)(hi:cs[i]? =some (eQ eN ty xs v)){k x:Nat}(hx:xs[k]? =some x){kd:IntKind}(hq:gD 1 v (.int kd (k:Nat))=some q):ev q h=some (.int .i64 x):=by
 obtain⟨l,o,a,b⟩:=H.HX i hi hx kd;rw[hq]at a;cases a;exact b
theorem ei.za4 (H:ei F h cs)(i:Nat){l n:Nat}(hi:cs[i]? =some (eo l en [.int .i64 n])):ei F h (cs.set i (eQ eN en [n] (.slice l 0 1))):=by
 have a:=H.ok i _ hi;exact H.swap hi (.inr ⟨l,_,rfl,a.2.1,a.2.2,a.1,⟨[.int .i64 n],[],rfl,rfl,trivial⟩,rfl⟩) λm e=>e.symm
theorem ei.UT {ι:Type} [DecidableEq ι] {ty:Nat}{f:ι->Option (List Nat×V)}{xs:List Nat}{v:V}(H:ei F h (eQ eN ty xs v::cs))(n:Nat)(p:cs[n]? =some (fJ ty f)){i:ι}(hi:f i=Option.none):ei F h (cs.set n (fJ ty (up f i (some (xs,v))))):=by
 have h0:=H.ok 0 _ rfl;have q:=H.ok (n+1) _ p;have z:∀l,Loc v l->¬(fJ ty f).j5 l:=λl g=>H.Bs 0 (n+1) _ _ rfl p (by omega) l g;have C:∀l,(fJ ty (up f i (some (xs,v)))).j5 l->Loc v l\/(fJ ty f).j5 l:=by
  rintro l ⟨k,ys,w,m,A⟩;by_cases e:k=i
  ·subst e;rw[im]at m;cases m;exact .inl A
  ·rw[iz _ _ e]at m;exact .inr ⟨k,ys,w,m,A⟩
 have r:∀j c,j≠n->cs[j]? =some c->∀l,(fJ ty (up f i (some (xs,v)))).j5 l->¬c.j5 l:=λj c o hc l g=>(C l g).elim (H.Bs 0 (j+1) _ c rfl hc (by omega) l) (H.Bs (n+1) (j+1) _ c p hc (by omega) l);refine⟨H.fl,λj c hc=>?_,λj k a b D hb u l g d=>?_⟩
 ·rcases wT hc with⟨_,rfl⟩|⟨_,s⟩
  ·refine ⟨λj ys w o=>?_,λj k ys w B x o m p l g d=>?_⟩
   ·by_cases e:j=i
    ·subst e;rw[im]at o;cases o;exact h0
    ·rw[iz _ _ e]at o;exact q.1 j ys w o
   ·by_cases e:j=i
    ·subst e;rw[im]at o;cases o;rw[iz _ _ λe=>p e.symm]at m;exact z l g ⟨k,B,x,m,d⟩
    ·rw[iz _ _ e]at o;by_cases e':k=i
     ·subst e';rw[im]at m;cases m;exact z l d ⟨j,ys,w,o,g⟩
     ·rw[iz _ _ e']at m;exact q.2 j k ys w B x o m p l g d
  ·exact H.ok (j+1) c s
 ·rcases wT D with⟨y,rfl⟩|⟨y,q⟩
  ·rcases wT hb with⟨t,_⟩|⟨t,s⟩
   ·exact u (y.trans t.symm)
   ·exact r k b t s l g d
  ·rcases wT hb with⟨t,rfl⟩|⟨_,s⟩
   ·exact r j a y q l d g
   ·exact H.Bs (j+1) (k+1) a b q s (by omega) l g d
theorem ei.Si {a b c d e f x y z:Pc}(H:ei F h (a::b::c::d::e::f::x::y::z::cs)):ei F h (d::a::f::x::y::z::cs):=
 H.re (λi=>match i with|0=>3|1=>0|n+2=>n+5) (λi c hc=>match i,hc with|0,hc=>hc|1,hc=>hc|n+2,hc=>hc) λi j _ _ e=>by
  match i,j with
  |0,0|1,1=>rfl
  |0,1|1,0=>simp at e
  |0,n+2|1,n+2|n+2,0|n+2,1=>simp at e;try omega
  |n+2,k+2=>simp at e;omega
theorem BB {α:Type}{l:List α}{i:Nat}{x:α}(h:l[i]? =some x):l.take (i+1)=l.take i++[x]:=by
 obtain⟨a,rfl⟩:=iB.1 h;exact Nw a
theorem tZ (p:Nat->Bool)(i:Nat):(List.range (i+1)).filter p=(List.range i).filter p++if p i=true then[i] else[]:=by
 rw[UD,Ws,T7];rfl
end
def Mt (bs:List (Bk×V))(b:Nat):V:=match bs[b]? with
 |some x=>x.2
 |none=> .undef
def ru (u:U)(kp:Nat->Bool)(b:Nat):Bk:={u.blocks.getD b Ms with fe:=wI u kp b (u.blocks.getD b Ms).fe}
section
variable{F F':Nat->Prop}{h h':Hp}{cs ds:List Pc}{Q:fx}{u:U}{wv wb ws kU:V}{lt ty:Nat}{az:List Int}{xs:List (Vl×V)}{bs:List (Bk×V)}{fa fn:Nat->Option (List Nat×V)}
theorem Sv (g:Jf u)(hc:TK u.ee xs fa)(hb:Tq u.blocks bs fn)(ci:az.length=u.ee.length)(bA:ws.one=true)
  (H0:ei F h (eQ vW gy xs wv::eQ tO fE bs wb::fJ en fa::fJ en fn::eQ eZ en az kU::eo lt ty [.int .i64 u.func,.int .i64 u.pc,wv,wb,ws,kU]::cs))
  (H:∀F' h' seen post kp u' n aV d I r aW,Sn F h F' h'->FX u.blocks.length (next u) seen post []->kp=(λb=>post.reverse.contains b)->Cut u kp u'->TK u'.ee n d->Tq u'.blocks aV I->LH u kp az r->
   ei F' h' (eQ vW gy n wv::eQ tO fE aV aW::fJ en d::fJ en I::eQ eZ en r kU::eo lt ty [.int .i64 u.func,.int .i64 u.pc,wv,aW,ws,kU]::cs)->Q (.tuple []) h') :
  cP CS ml [.ptr lt 0] h Q:=by
 refine C7 rfl rfl ?_;unfold wQ;have nb:=g.walk.nb;have nv:=g.nv;have aX:bs.length=u.blocks.length:=by rw[<-hb.fst,Fk]
 have bC:xs.length=u.ee.length:=by rw[<-hc.fst,Fk]
 have fz:∀{h:Hp} {cs:List Pc},fH 0 (.ptr lt 0)=some (.ptr lt 0):=rfl;refine ed (fT _ _) (ed (ez _ _ _) (oF (H0.ld 5 rfl rfl) (ed (H0.len 1 rfl) ?_)));rw[aX,jk (z:=V.bool false) rfl (by decide) (by omega),fq];obtain⟨H1,s1⟩:=H0.make (E:=eB) (ty:=jf) (y:=false) (u:=V.bool false) u.blocks.length rfl rfl;generalize h.new (.cells jf 1 true false (List.replicate u.blocks.length (V.bool false)))=f at*;generalize h.next=lk at*;refine ed (fT _ _) (ed (ez _ _ _) (ed (ld5 H1 6 rfl) ?_));have aD:fV (uC u wv wb ws)=true:=by simp only[uC,eJ,H1.one 1 rfl,H1.one 2 rfl,bA];rfl
 refine Mi g.walk H1.zbg aD (H1.UH 2 4 rfl rfl hb) λK vo seen post aG aY G=>?_;have H2:=H1.za0 aG aY;have aZ:=s1.trans aG.back;clear aG aY aD fz s1 H1;have ae:∀b∈post.reverse,b<u.blocks.length:=λb hb=>G.pre b (VB.1 hb);have bD:post.reverse.length<=u.blocks.length:=by
  have f:=G.nodup;rw[Qz,Co]at f;rw[List.length_reverse];exact jy _ _ f G.pre
 generalize a4:post.reverse=R at H2 ae bD⊢;refine ed (H2.len 0 rfl) ?_
 refine AP (λk l h'=>∃(i:Nat) (kl:List Bool),l=[.ptr lt 0,.slice lk 0 u.blocks.length,vo,.int .i64 R.length,.int .i64 i]/\i+k=R.length/\kl.length=u.blocks.length/\(∀b,b<u.blocks.length->kl[b]? =some ((R.take i).contains b))/\Sn F h F h'/\
  ei F h' (eQ eN en R vo::eQ eB jf kl (.slice lk 0 u.blocks.length)::eQ vW gy xs wv::eQ tO fE bs wb::fJ en fa::fJ en fn::eQ eZ en az kU::eo lt ty [.int .i64 u.func,.int .i64 u.pc,wv,wb,ws,kU]::cs)) ?_ (k:=R.length)
  ⟨0,_,rfl,by omega,Nt,λb hb=>by rw[VX,if_pos hb];rfl,aZ,H2⟩
 rintro k _ _ _ _ _ h3 ⟨i,kl,⟨⟩,X,a5,S,s3,H3⟩;unfold tH;by_cases hi:i<R.length
 ·refine gw ?_;have hx:=gQ hi;have ak:R.take (i+1)=R.take i++[R[i]]:=Nw hi;generalize R[i]=b at*;have bE:=ae b (xQ hx);obtain⟨l1,o1,x1,x2⟩:=H3.HX 0 rfl hx .i64;obtain⟨l2,o2,h4,e1,e2,_,H4,s4⟩:=H3.G7 1 rfl (k:=b) (y:=true) (u:=V.bool true) (by omega) rfl rfl rfl;refine ed x1 (ed x2 (ed e1 ?_));rw[e2,ef];simp only[iO,kZ]at H4;refine fM ⟨k-1,by omega,i+1,kl.set b true,rfl,by omega,by simp[a5],λc aH=>?_,s3.trans s4,H4⟩;rw[ak];by_cases e:c=b
  ·subst e;rw[Ct (by omega)];simp
  ·rw[AR λh=>e h.symm,S c aH];simp[e]
 refine iC ?_;obtain rfl:i=R.length:=by omega
 rw[IT]at S;clear X k H2;have H3:=H3.tail;obtain⟨kp,a6⟩:∃kp:Nat->Bool,(λb=>R.contains b)=kp:=⟨_,rfl⟩
 have S:∀b,b<u.blocks.length->kl[b]? =some (kp b):=λb hb=>by rw[S b hb,<-a6]
 have a7:kp=λb=>post.reverse.contains b:=by rw[a4,a6]
 have a8:fD (.slice lk 0 u.blocks.length)=some (.int .i64 u.blocks.length):=rfl;refine ed a8 ?_;rw[jk (z:=V.int .i64 0) rfl (by decide) (by omega),fq];obtain⟨H4,s4⟩:=H3.make (E:=eN) (ty:=en) (y:=0) (u:=V.int .i64 0) u.blocks.length rfl rfl;generalize h3.new (.cells en 1 true false (List.replicate u.blocks.length (V.int .i64 0)))=h4 at*;generalize h3.next=ln at*;refine ed a8 ?_;have a9:=s3.trans s4;clear aZ s3 s4 H3
 refine A0 (λk l h'=>∃(i:Nat) (ns:List Nat),l=[.ptr lt 0,.slice lk 0 u.blocks.length,.slice ln 0 u.blocks.length,.int .i64 (((List.range i).filter kp).length:Nat),.slice lk 0 u.blocks.length,.int .i64 u.blocks.length,.int .i64 i]/\i+k=u.blocks.length/\ns.length=u.blocks.length/\(∀b,b<i->ns[b]? =some (uT kp b))/\(∀b,i<=b->b<u.blocks.length->ns[b]? =some 0)/\Sn F h F h'/\
  ei F h' (eQ eN en ns (.slice ln 0 u.blocks.length)::eQ eB jf kl (.slice lk 0 u.blocks.length)::eQ vW gy xs wv::eQ tO fE bs wb::fJ en fa::fJ en fn::eQ eZ en az kU::eo lt ty [.int .i64 u.func,.int .i64 u.pc,wv,wb,ws,kU]::cs)) ?_ (k:=u.blocks.length)
  ⟨0,_,rfl,by omega,Nt,λb hb=>by omega,λb _ hb=>by rw[VX,if_pos hb],a9,H4⟩
 clear a9 H4 H0;rintro k _ _ _ _ _ _ _ h3 ⟨i,ns,⟨⟩,X,ai,aw,ax,s3,H3⟩;unfold ti;have ba:((List.range i).filter kp).length<=i:=by
  have:=XP kp (List.range i)
  rwa [VO]at this
 by_cases hi:i<u.blocks.length
 ·refine gw ?_;obtain⟨l1,o1,x1,x2⟩:=H3.ID 1 rfl (S i hi) .i64;refine ed x1 (ed x2 (jH ?_));have hr:((List.range (i+1)).filter kp).length=((List.range i).filter kp).length+(if kp i=true then 1 else 0):=by
   rw[UD,Ws,zL,T7];split <;> rfl
  by_cases A:kp i=true
  ·refine ig A ?_;obtain⟨l2,o2,h4,e1,e2,_,H4,s4⟩:=H3.G7 0 rfl (k:=i) (y:=((List.range i).filter kp).length) (u:=V.int .i64 (((List.range i).filter kp).length:Nat)) (by omega) rfl rfl rfl;refine ed e1 ?_;rw[e2,ef];simp only[iO]at H4;refine fM (rC ?_);unfold mL;rw[if_pos A]at hr;refine fM ⟨k-1,by omega,i+1,ns.set i ((List.range i).filter kp).length,by rw[hr],by omega,by simp[ai],λb hb=>?_,λb hb aI=>?_,s3.trans s4,H4⟩
   ·by_cases e:b=i
    ·subst e;rw[Ct (by omega)];unfold uT;rw[if_pos A]
    ·rw[AR λh=>e h.symm];exact aw b (by omega)
   ·rw[AR (by omega)];exact ax b (by omega) aI
  ·refine gG A (rC ?_);unfold mL;rw[if_neg A,VP]at hr;refine fM ⟨k-1,by omega,i+1,ns,by rw[hr];rfl,by omega,ai,λb hb=>?_,λb hb aI=>ax b (by omega) aI,s3,H3⟩;by_cases e:b=i
   ·subst e;rw[ax b (iW _) hi];unfold uT;rw[if_neg A]
   ·exact aw b (by omega)
 refine iC ?_;obtain rfl:i=u.blocks.length:=by omega
 clear X k ax ba;refine ed (fT _ _) (ed (ez _ _ _) (oF (H3.ld 7 rfl rfl) (ed (H3.len 3 rfl) ?_)));rw[aX];have H3:ei F h3 (eQ tO fE [] .ec::eQ eN en ns (.slice ln 0 u.blocks.length)::eQ eB jf kl (.slice lk 0 u.blocks.length)::eQ vW gy xs wv::eQ tO fE bs wb::fJ en fa::fJ en fn::eQ eZ en az kU::eo lt ty [.int .i64 u.func,.int .i64 u.pc,wv,wb,ws,kU]::cs):=H3.add .nil λ_ h=>h;have ai:∀b,b<u.blocks.length->ns[b]? =some (uT kp b):=aw
 refine AU (λk l h'=>∃(F':Nat->Prop) (i:Nat) (n:List (Vl×V)) (d:Nat->Option (List Nat×V)) (r:List Int) (Y:V),l=[.ptr lt 0,.slice lk 0 u.blocks.length,.slice ln 0 u.blocks.length,Y,wb,.int .i64 u.blocks.length,.int .i64 i]/\i+k=u.blocks.length/\Sn F h F' h'/\
  OU u kp (AW u kp true i 0) n d/\XZ (AW u kp false i 0) az r/\
  ei F' h' (eQ tO fE (((List.range i).filter kp).map λb=>(ru u kp b,Mt bs b)) Y::eQ eN en ns (.slice ln 0 u.blocks.length)::eQ eB jf kl (.slice lk 0 u.blocks.length)::eQ vW gy n wv::eQ tO fE bs wb::fJ en d::fJ en fn::eQ eZ en r kU::eo lt ty [.int .i64 u.func,.int .i64 u.pc,wv,wb,ws,kU]::cs)) ?_ (k:=u.blocks.length)
  ⟨F,0,xs,fa,az,.ec,rfl,by omega,s3,?_,?_,H3⟩
 rotate_left
 ·refine ⟨bC,λi hi=>hc.out i (by omega),λv b k x B hD=>?_,λv x hx _=>?_⟩
  ·rcases hD with⟨_,_,h,_⟩|⟨_,h,_⟩ <;> omega
  ·rw[<-hc.fst,wq]at hx
   cases hy:xs[v]? with
   |none=>rw[hy]at hx;cases hx
   | some y=>
     rw[hy]at hx;cases hx;exact⟨y.2,rfl,hc.row v y.1 y.2 hy⟩
 ·refine⟨rfl,λv hD=>?_,λv _=>rfl⟩;rcases hD with⟨_,_,h,_⟩|⟨_,h,_⟩ <;> omega
 clear H3 s3 hi aw;rintro k _ _ _ Y _ _ _ h4 ⟨L,i,n,d,r,_,⟨⟩,X,s4,D,aa,H4⟩;unfold tL;by_cases hi:i<u.blocks.length
 ·refine gw ?_;obtain⟨⟨B,wn⟩,M⟩:∃y,bs[i]? =some y:=⟨_,gQ (by omega)⟩
  have U:u.blocks[i]? =some B:=by rw[<-hb.fst,wq,M];rfl
  have aJ:Mt bs i=wn:=by unfold Mt;rw[M]
  obtain ⟨l1,o1,w1,x1,x2,⟨bv,bp,rfl,iv,ip,aK⟩,_⟩:=H4.Vw 4 rfl M .i64;have x1:gD 6 wb (.int .i64 i)=some (.ptr l1 o1):=x1;have x2:gg 6 (.ptr l1 o1) h4=some (.agg (kM B bv wn bp)):=x2;refine ed x1 (ed x2 ?_);refine iK H4 rfl rfl (by simp only[kM,eJ,iv.one,ip.one,aK];rfl) λh5 H5 s5=>?_;generalize h4.next=lb at*;have iv:=iv.since s5;have ip:=ip.since s5;clear x1 x2;obtain⟨l2,o2,y1,y2⟩:=H5.ID 3 rfl (S i hi) .i64;refine ed y1 (ed y2 (pj ?_));have ay:∀c v,AW u kp c (i+1) 0 v↔AW u kp c i 0 v\/(kp i=c/\∃k,At u v i k):=λc v=>by
   constructor
   ·rintro(⟨b,k,f,K,h3⟩|⟨k,f,_⟩)
    ·by_cases e:b=i
     ·subst e;exact .inr ⟨K,k,h3⟩
     ·exact .inl (.inl ⟨b,k,by omega,K,h3⟩)
    ·omega
   ·rintro((⟨b,k,f,K,h3⟩|⟨k,f,_⟩)|⟨f,k,K⟩)
    ·exact .inl ⟨b,k,by omega,K,h3⟩
    ·omega
    ·exact .inl ⟨i,k,by omega,f,K⟩
  have al:∀c j w,B.ee[j]? =some w->∀v,AW u kp c i (j+1) v↔AW u kp c i j v\/v=w:=λc j w hw v=>by
   constructor
   ·rintro(f|⟨k,f,K⟩)
    ·exact .inl (.inl f)
    ·by_cases e:k=j
     ·subst e;obtain⟨B',e1,e2⟩:=K;rw[U]at e1;cases e1;rw[hw]at e2;cases e2;exact .inr rfl
     ·exact .inl (.inr ⟨k,by omega,K⟩)
   ·rintro((f|⟨k,f,K⟩)|rfl)
    ·exact .inl f
    ·exact .inr ⟨k,by omega,K⟩
    ·exact .inr ⟨j,by omega,B,U,hw⟩
  have am:∀c,kp i=c->∀v,AW u kp c i B.ee.length v↔AW u kp c (i+1) 0 v:=λc bG v=>by
   rw[ay];constructor
   ·rintro(f|⟨k,f,K⟩)
    ·exact .inl (.inl f)
    ·exact .inr ⟨bG,k,K⟩
   ·rintro((f|⟨k,f,_⟩)|⟨_,k,B',e1,e2⟩)
    ·exact .inl f
    ·omega
    ·rw[U]at e1;cases e1;exact .inr ⟨k,(iB.1 e2).1,B,U,e2⟩
  have ce:B.ee.length<=u.ee.length:=by
   refine jy u.ee.length B.ee ?_ λv hv=>?_
   ·rw[wBl,VQ];intro a b ha hb cj e;have:=(g.EI B.ee[a] i a i b ⟨B,U,gQ ha⟩ ⟨B,U,by rw[e];exact gQ hb⟩).2;omega
   ·obtain⟨k,X⟩:=mA.1 hv;exact g.l0 v i k ⟨B,U,X⟩
  by_cases A:kp i=true
  ·refine ig A ?_;have bH:=g.pre i B U;have aL:u.blocks.getD i Ms=B:=by rw[E3,U];rfl
   have bq:∀{e sz:Nat} {a b:Bool} {cs:List V},O.beq (.cells e sz a b cs) (.cells e sz a b cs)=true:=O.gL _ _ _ _ _;refine oF (H5.ld 0 rfl rfl) (ed ip.len ?_);obtain⟨c,aM⟩:∃c:Nat->Bool,(λj=>kp (B.fe.getD j 0)&&(next u (B.fe.getD j 0)).contains i)=c:=⟨_,rfl⟩
   have aN:(List.range B.fe.length).filter c=vj u kp i B.fe:=by rw[<-aM];rfl
   have H5:=(H5.add (p:=eQ eN en [] .ec) .nil λ_ h=>h).add (p:=eQ eN en [] .ec) .nil λ_ h=>h
   refine Bq (λk' l h'=>∃(j:Nat) (W s:V),l=[.ptr lt 0,.slice lk 0 u.blocks.length,.slice ln 0 u.blocks.length,Y,.int .i64 i,.ptr lb 0,W,s,wb,.int .i64 u.blocks.length,.int .i64 i,bp,.int .i64 B.fe.length,.int .i64 j]/\j+k' = B.fe.length/\Sn F h L h'/\Sn L h5 L h'/\
    ei L h' (eQ eN en (((List.range j).filter c).map λj=>uT kp (B.fe.getD j 0)) s::eQ eN en ((List.range j).filter c) W::eo lb 44 (kM B bv wn bp)::eQ tO fE (((List.range i).filter kp).map λb=>(ru u kp b,Mt bs b)) Y::eQ eN en ns (.slice ln 0 u.blocks.length)::eQ eB jf kl (.slice lk 0 u.blocks.length)::eQ vW gy n wv::eQ tO fE bs wb::fJ en d::fJ en fn::eQ eZ en r kU::eo lt ty [.int .i64 u.func,.int .i64 u.pc,wv,wb,ws,kU]::cs)) ?_ (k:=B.fe.length)
    ⟨0,.ec,.ec,rfl,by omega,s4.trans s5,Sn.refl _ _,H5⟩
   clear H5 H4;rintro k' _ _ _ _ _ _ W s _ _ _ _ _ _ h6 ⟨j,_,_,⟨⟩,ag,s6,ab,T⟩;unfold tC;have aH:((List.range j).filter c).length<=j:=by
    have:=XP c (List.range j)
    rwa [VO]at this
   by_cases hj:j<B.fe.length
   ·refine gw ?_;have hx:=gQ hj;have aA:=bH.2 B.fe[j] (AO hj);have bb:B.fe.getD j 0=B.fe[j]:=by rw[E3,hx];rfl
    generalize B.fe[j]=p at*;obtain⟨l1,o1,_,x1,x2⟩:=(ip.since ab).nat hx .i64;obtain⟨l2,o2,y1,y2⟩:=T.ID 5 rfl (S p aA) .i64;refine ed x1 (ed x2 (ed y1 (ed y2 ?_)));have aO:=tZ c j;have an:c j=(kp p&&(next u p).contains i):=by rw[<-aM];simp only[bb]
    cases hkp':kp p with
    | false=>
      refine gz (gz (gz (gz (gz (gz (gz (gz (gz (gz (Cr ?_))))))))));refine ed (show lJ (.bool false) .undef (.bool false)=some (.bool false) from rfl) (jH (gG (by decide) (mM ?_)));unfold kj;refine j7 (m:=1) (by omega) (by omega) ⟨k'-1,by omega,j+1,W,s,rfl,by omega,s6,ab,?_⟩;rw[aO,show c j=false by rw[an,hkp'];rfl]
      simpa using T
    | true=>
      obtain⟨⟨P,wp⟩,aP⟩:∃y,bs[p]? =some y:=⟨_,gQ (by omega)⟩
      have hP:u.blocks[p]? =some P:=by rw[<-hb.fst,wq,aP];rfl
      have bI:next u p=P.next:=by unfold next;rw[hP]
      obtain⟨l3,o3,w3,z1,_,⟨pv,pp,rfl,_,_,_⟩,z2⟩:=T.Vw 7 rfl aP .i64;have z1:gD 6 wb (.int .i64 (p:Nat))=some (.ptr l3 o3):=z1;have z3:=z2 3 wp rfl;refine fY (ed rfl (fY (ed (fT _ _) (fY (ed (ez _ _ _) (fY (ed (ez _ _ _) (fY (ed (T.ld 11 rfl rfl) (fY (ed rfl (fY (ed z1 (fY (ed (ez _ _ _) (fY (ed z3 (fY (ed rfl (zR ?_))))))))))))))))))));refine Zf (T.rows 9 rfl (hb.row p P wp aP)).read (by have:=g.walk.two p P hP;omega) i ?_;rw[<-bI];refine ed (show lJ (.bool true) (.bool ((next u p).contains i)) (.bool false)=some (.bool ((next u p).contains i)) from rfl) (jH ?_);rw[hkp',YY]at an;by_cases aj:(next u p).contains i=true
      ·refine ig aj ?_
       rw[aj]at an;rw[oI,gY];obtain⟨Z,s7⟩:=T.yP en (gN [j]);have Z:ei L (h6.new (.cells 3 1 true false (gN [j]))) (eo h6.next 3 (gN [j])::_):=Z;have s7:Sn L h6 L (h6.new (.cells 3 1 true false (gN [j]))):=s7;generalize h6.new (.cells 3 1 true false (gN [j]))=h7 at*;generalize h6.next=r1 at*;obtain⟨l4,o4,n1,n2⟩:=Z.HX 5 rfl (ai p aA) .i64;refine ed n1 (ed n2 ?_);rw[oI,gY];obtain⟨J,s8⟩:=Z.yP en (gN [uT kp p]);have J:ei L (h7.new (.cells 3 1 true false (gN [uT kp p]))) (eo h7.next 3 (gN [uT kp p])::eo r1 3 (gN [j])::_):=J;have s8:Sn L h7 L (h7.new (.cells 3 1 true false (gN [uT kp p]))):=s8;generalize h7.new (.cells 3 1 true false (gN [uT kp p]))=h8 at*;generalize h7.next=r2 at*;refine⟨⟨J.get 0 rfl,bq⟩,J.Ye 6 rfl (ai p aA) n1,⟨J.get 1 rfl,bq⟩,?_⟩;have J:=J.za4 1 rfl;simp only[iO,kZ]at J;obtain⟨va,h9,e9,n9,H9,s9⟩:=J.Zy 3 1 rfl rfl (jr:=8) (by decide) (by decide) (by simp;omega);have ao:eR 3 1 8 W (.slice r1 0 1) h8=some (.val va h9):=e9;simp only[iO,kZ]at H9;rw[ao,ef];refine⟨n9,⟨H9.get 0 rfl,bq⟩,H9.Ye 6 rfl (ai p aA) n1,?_⟩;have H9:=H9.za4 0 rfl;simp only[iO]at H9;obtain⟨vc,bJ,bK,bL,ap,bQ⟩:=H9.Zy 2 0 rfl rfl (jr:=8) (by decide) (by decide) (by simp;omega);have bc:eR 3 1 8 s (.slice r2 0 1) h9=some (.val vc bJ):=bK;rw[bc,ef];simp only[iO,kZ]at ap;refine⟨bL,mM ?_⟩;unfold kj;have sA:=((s7.trans s8).trans s9).trans bQ;refine j7 (m:=1) (by omega) (by omega) ⟨k'-1,by omega,j+1,va,vc,rfl,by omega,s6.trans sA,ab.trans sA,?_⟩;rw[aO,an,if_pos rfl,EV,PW,Qz,bb];exact ap.tail.tail
      ·refine gG aj (mM ?_)
       unfold kj;refine j7 (m:=1) (by omega) (by omega) ⟨k'-1,by omega,j+1,W,s,rfl,by omega,s6,ab,?_⟩;rw[aO,show c j=false by rw[an];simpa using aj];simpa using T
   refine iC ?_;obtain rfl:j=B.fe.length:=by omega
   rw[aN]at T;have cm:(vj u kp i B.fe).length<=700:=by rw[<-aN];omega
   have bR:∀m∈vj u kp i B.fe,m<B.fe.length:=λm hm=>by
    unfold vj at hm;exact Px.1 (NA.1 hm).1
   have bd:(vj u kp i B.fe).map (λj=>uT kp (B.fe.getD j 0))=wI u kp i B.fe:=rfl;rw[bd]at T;clear ag k' aH hj aN aM c bd;refine oF (T.ld 2 rfl rfl) (ed iv.len ?_);have be:=iv.since ab;clear iv ip ab
   refine AS (λk' l h'=>∃(j:Nat) (n:List (Vl×V)) (d:Nat->Option (List Nat×V)),l=[.ptr lt 0,.slice lk 0 u.blocks.length,.slice ln 0 u.blocks.length,Y,.ptr lb 0,W,s,wb,.int .i64 u.blocks.length,.int .i64 i,bv,.int .i64 B.ee.length,.int .i64 j]/\j+k' = B.ee.length/\Sn F h L h'/\Sn L h6 L h'/\OU u kp (AW u kp true i j) n d/\
    ei L h' (eQ eN en (wI u kp i B.fe) s::eQ eN en (vj u kp i B.fe) W::eo lb 44 (kM B bv wn bp)::eQ tO fE (((List.range i).filter kp).map λb=>(ru u kp b,Mt bs b)) Y::eQ eN en ns (.slice ln 0 u.blocks.length)::eQ eB jf kl (.slice lk 0 u.blocks.length)::eQ vW gy n wv::eQ tO fE bs wb::fJ en d::fJ en fn::eQ eZ en r kU::eo lt ty [.int .i64 u.func,.int .i64 u.pc,wv,wb,ws,kU]::cs)) ?_ (k:=B.ee.length)
    ⟨0,n,d,rfl,by omega,s6,Sn.refl _ _,D,T⟩
   clear T s6 D;rintro k' _ _ _ _ _ _ _ _ _ _ _ _ _ h7 ⟨j,n,d,⟨⟩,ag,s7,aB,D,Z⟩;unfold tE;by_cases hj:j<B.ee.length
   ·refine gw ?_;have hx:=gQ hj;generalize B.ee[j]=v at*;have N:At u v i j:=⟨B,U,hx⟩
    have aC:=g.l0 v i j N;obtain⟨l1,o1,_,x1,x2⟩:=(be.since aB).nat hx .i64;obtain⟨x,aq⟩:∃x,u.ee[v]? =some x:=⟨_,gQ aC⟩
    have bS:¬AW u kp true i j v:=by
     rintro(⟨b,k,f,_,K⟩|⟨k,f,K⟩)
     ·have:=(g.EI _ _ _ _ _ K N).1;omega
     ·have:=(g.EI _ _ _ _ _ K N).2;omega
    obtain⟨w,aQ,bU⟩:=D.same v x aq λh=>bS h.2;obtain⟨lv,ov,wl,y1,_,⟨rfl,w1⟩,y2⟩:=Z.Vw 6 rfl aQ .i64;have y1:gD 6 wv (.int .i64 v)=some (.ptr lv ov):=y1;refine ed x1 (ed x2 (ed (fT _ _) (ed (ez _ _ _) (oF (Z.ld 11 rfl rfl) (ed y1 (oN (y2 0 _ rfl) (gO ?_)))))));by_cases ae:x.op=21
    ·refine ig (by show(x.op:Int)=21;omega) (ed (Z.len 1 rfl) ?_);have bV:=g.args v x aq;have cf:=g.IE v i j x B N aq ae U;have J:=Z.add (p:=eQ eN en [] .ec) .nil λ_ h=>h
     refine Bo (λaR l h'=>∃(m:Nat) (vr:V),l=[.ptr lt 0,.slice lk 0 u.blocks.length,.slice ln 0 u.blocks.length,Y,.ptr lb 0,W,s,.ptr lv ov,vr,wb,.int .i64 u.blocks.length,.int .i64 i,bv,.int .i64 B.ee.length,.int .i64 j,W,.int .i64 ((vj u kp i B.fe).length:Nat),.int .i64 m]/\m+aR=(vj u kp i B.fe).length/\Sn L h7 L h'/\
      ei L h' (eQ eN en (((vj u kp i B.fe).take m).map λj=>x.args.getD j 0) vr::eQ eN en (wI u kp i B.fe) s::eQ eN en (vj u kp i B.fe) W::eo lb 44 (kM B bv wn bp)::eQ tO fE (((List.range i).filter kp).map λb=>(ru u kp b,Mt bs b)) Y::eQ eN en ns (.slice ln 0 u.blocks.length)::eQ eB jf kl (.slice lk 0 u.blocks.length)::eQ vW gy n wv::eQ tO fE bs wb::fJ en d::fJ en fn::eQ eZ en r kU::eo lt ty [.int .i64 u.func,.int .i64 u.pc,wv,wb,ws,kU]::cs)) ?_ (k:=(vj u kp i B.fe).length)
      ⟨0,.ec,rfl,by omega,Sn.refl _ _,J⟩
     clear J Z y2;rintro aR _ _ _ _ _ _ _ _ vr _ _ _ _ _ _ _ _ _ h8 ⟨m,_,⟨⟩,cg,aS,J⟩;unfold tk;obtain⟨bf,bg,wl,y3,_,⟨rfl,_⟩,y4⟩:=J.Vw 7 rfl aQ .i64;have y3:gD 6 wv (.int .i64 v)=some (.ptr bf bg):=y3;rw[y1]at y3;obtain⟨rfl,rfl⟩:lv=bf/\ov=bg:=by cases y3;exact⟨rfl,rfl⟩
     clear y3;by_cases hm:m<(vj u kp i B.fe).length
     ·refine gw ?_;have hq:=gQ hm;have ak:=BB hq;have cn:=bR _ (AO hm);generalize (vj u kp i B.fe)[m]=q at*;obtain⟨l2,o2,z1,z2⟩:=J.HX 2 rfl hq .i64;have ha:=gQ (show q<x.args.length by omega);have bW:x.args.getD q 0=x.args[q]:=by rw[E3,ha];rfl
      generalize x.args[q]=a at*;obtain⟨l3,o3,_,z3,z4⟩:=(J.rows 9 rfl bU).read.nat ha .i64;refine ed z1 (ed z2 (oN (y4 4 _ rfl) (ed z3 (ed z4 ?_))));rw[oI,fq];obtain⟨va,h9,e9,_,H9,s9⟩:=J.vF 0 rfl (jr:=8) (zF:=3) (y:=a) (w:=gN [a]) (ro:=false) rfl (by decide) (by decide) (by simp;omega);have ao:eR 3 1 8 vr (.slice h8.next 0 1) (h8.new (.cells 3 1 true false (gN [a])))=some (.val va h9):=e9;rw[ao,ef];simp only[iO]at H9;refine fM ⟨aR-1,by omega,m+1,va,rfl,by omega,aS.trans s9,?_⟩;rw[ak,EV,PW,Qz,bW];exact H9
     refine iC ?_;obtain rfl:m=(vj u kp i B.fe).length:=by omega
     rw [IT]at J;have J:ei L h8 (eQ eN en (uB u kp i B.fe x.args) vr::_):=J;have bh:=J.one 0 rfl;have aE:=iB.1 aQ;obtain⟨lq,h9,e1,e2,_,H9,s9⟩:=J.stF 7 rfl (k:=v) (j:=4) (y:=({x with args:=uB u kp i B.fe x.args},vr)) (a:=vr) aE.1 (by decide) bh (λw' hw=>by
      rw[aE.2]at hw;obtain⟨rfl,_⟩:=hw;exact⟨rfl,bh⟩)
     have e1:gD 6 wv (.int .i64 v)=some (.ptr lq (v*6)):=e1;rw[y1]at e1;obtain⟨rfl,rfl⟩:lv=lq/\ov=v*6:=by cases e1;exact⟨rfl,rfl⟩
     have e2:gB 1 (.ptr lv (v*6+4)) vr h8=some (.val .undef h9):=e2;refine ed (fT _ _) (ed (ez _ _ _) ?_);rw[e2,ef];simp only[iO,kZ]at H9;have ap:=H9.OE 9 rfl (up d v Option.none) id (λa p ha=>by
      by_cases e:a=v
      ·subst e;rw[im]at ha;cases ha
      ·rwa [iz _ _ e]at ha) (λ_ _ _ _ _ _ e=>e)
     simp only[iO,kZ]at ap;have aT:=ap.UT 8 rfl (i:=v) (im _ _ _);simp only[iO,kZ]at aT;have bi:up (up d v Option.none) v (some (uB u kp i B.fe x.args,vr))=up d v (some (uB u kp i B.fe x.args,vr)):=funext λa=>by
      by_cases e:a=v
      ·subst e;rw[im,im]
      ·rw[iz _ _ e,iz _ _ e,iz _ _ e]
     rw[bi]at aT;refine rO ?_;unfold mG;have c2:=D.put g N aq ae U vr;refine fM ⟨k'-1,by omega,j+1,_,_,rfl,by omega,(s7.trans aS).trans s9,(aB.trans aS).trans s9,?_,aT⟩;exact c2.more (λa ha=> .inl ((al true j v hx a).1 ha)) λa ha=>(al true j v hx a).2 ha
    ·refine gG (by show ¬(x.op:Int)=21;omega) (rO ?_);unfold mG;refine fM ⟨k'-1,by omega,j+1,n,d,rfl,by omega,s7,aB,D.more (λa ha=>?_) (λa ha=>(al true j v hx a).2 (.inl ha)),Z⟩;rcases(al true j v hx a).1 ha with f|rfl
     ·exact .inl f
     ·exact .inr ⟨x,aq,ae⟩
   refine iC ?_;obtain rfl:j=B.ee.length:=by omega
   clear ag k' hj;have bX:=be.since aB;obtain⟨J,s8,rp⟩:=Z.kE 0 rfl;simp only[iO]at J;have bY:=bX.since s8;generalize (λl=>L l\/Loc s l)=F8 at*;have J:=J.tail.tail;obtain⟨h9,e9,_,H9,s9⟩:=J.st 0 (o:=4) (u:=s) rfl (by simp[kM]) rp.one;refine ed (ez _ _ _) ?_;have ao:gB 1 (.ptr lb (0+4)) s h7=some (.val .undef h9):=by rw[vI];exact e9
   rw[ao,ef];simp only[iO]at H9;have bj:ru u kp i = {B with fe:=wI u kp i B.fe}:=by unfold ru;rw[aL]
   have aj:(kM B bv wn bp).set 4 s=kM (ru u kp i) bv wn s:=by rw[bj];rfl
   rw [aj]at H9;have bm:=bY.since s9;have bn:=rp.since s9;refine ed (H9.wH 0 rfl rfl) ?_;have H9:=H9.tail;rw[mq (sz:=6) (w:=kM (ru u kp i) bv wn s) rfl rfl (by simp only[kM,eJ,bm.one,aK,bn.one];rfl),fq];have co:((List.range i).filter kp).length<=i:=by
    have:=XP kp (List.range i)
    rwa [VO]at this
   obtain⟨bo,hA,eA,_,HA,sA⟩:=H9.vF 0 rfl (jr:=96) (zF:=44) (y:=(ru u kp i,wn)) (w:=kM (ru u kp i) bv wn s) (ro:=false) (by rw[bj];exact⟨bv,s,rfl,bm,bn,aK⟩) (by decide) (by decide) (by simp;omega);have bZ:eR 44 6 96 Y (.slice h9.next 0 1) (h9.new (.cells 44 6 true false (kM (ru u kp i) bv wn s)))=some (.val bo hA):=eA;rw[bZ,ef];simp only[iO]at HA;refine rU ?_;unfold mE;refine fM ⟨k-1,by omega,F8,i+1,n,d,r,bo,rfl,by omega,((s7.trans s8).trans s9).trans sA,?_,?_,?_⟩
   ·exact D.more (λv f=> .inl ((am true A v).2 f)) λv f=>(am true A v).1 f
   ·refine aa.congr λv=>?_;rw[ay];exact⟨.inl,λh=>h.resolve_right λh=>by rw[A]at h;cases h.1⟩
   ·rw[tZ,A,if_pos rfl,EV,PW,Qz,aJ];exact HA
  ·refine gG A ?_;have A:kp i=false:=Y1.2 A;refine oF (H5.ld 0 rfl rfl) (ed iv.len ?_);have H5:=H5.tail
   refine A4 (λk' l h'=>∃(j:Nat) (r:List Int),l=[.ptr lt 0,.slice lk 0 u.blocks.length,.slice ln 0 u.blocks.length,Y,wb,.int .i64 u.blocks.length,.int .i64 i,bv,.int .i64 B.ee.length,.int .i64 j]/\j+k' = B.ee.length/\Sn F h L h'/\Sn L h5 L h'/\XZ (AW u kp false i j) az r/\
    ei L h' (eQ tO fE (((List.range i).filter kp).map λb=>(ru u kp b,Mt bs b)) Y::eQ eN en ns (.slice ln 0 u.blocks.length)::eQ eB jf kl (.slice lk 0 u.blocks.length)::eQ vW gy n wv::eQ tO fE bs wb::fJ en d::fJ en fn::eQ eZ en r kU::eo lt ty [.int .i64 u.func,.int .i64 u.pc,wv,wb,ws,kU]::cs)) ?_ (k:=B.ee.length)
    ⟨0,r,rfl,by omega,s4.trans s5,Sn.refl _ _,aa,H5⟩
   clear H5 H4;rintro k' _ _ _ Y _ _ _ _ _ _ h6 ⟨j,r,⟨⟩,ag,s6,ab,aa,T⟩;unfold tx;by_cases hj:j<B.ee.length
   ·refine gw ?_;have hx:=gQ hj;generalize B.ee[j]=v at*;have aC:=g.l0 v i j ⟨B,U,hx⟩;obtain⟨l1,o1,_,x1,x2⟩:=(iv.since ab).nat hx .i64;refine ed x1 (ed x2 (oN (T.ld 8 rfl rfl) ?_));obtain⟨l2,o2,h7,e1,e2,_,Z,s7⟩:=T.G7 7 rfl (k:=v) (y:=(-1:Int)) (u:=V.int .i64 (-1)) (by rw[aa.len];omega) rfl rfl rfl;refine ed e1 ?_;rw[e2,ef];simp only[iO,kZ]at Z;exact fM ⟨k'-1,by omega,j+1,r.set v (-1),rfl,by omega,s6.trans s7,ab.trans s7,(aa.put v).congr λa=>(al false j v hx a).symm,Z⟩
   refine iC (rU ?_);unfold mE;obtain rfl:j=B.ee.length:=by omega
   refine fM ⟨k-1,by omega,L,i+1,n,d,r,_,rfl,by omega,s6,?_,aa.congr (am false A),?_⟩
   ·refine D.more (λv f=> .inl ?_) λv f=>(ay true v).2 (.inl f);rcases(ay true v).1 f with K|⟨K,_⟩
    ·exact K
    ·rw[A]at K;cases K
   ·rw[tZ,A];simpa using T
 refine iC ?_;obtain rfl:i=u.blocks.length:=by omega
 clear X k hi;have a5:(lI u kp).length<=u.blocks.length:=by
  have:=XP kp (List.range u.blocks.length)
  rwa [VO]at this
 rw[show(List.range u.blocks.length).filter kp=lI u kp from rfl]at H4;refine ed (H4.len 0 rfl) ?_;rw[Fk];have br:(lI u kp).Nodup:=List.nodup_range.filter _;have bt:∀b∈lI u kp,b<u.blocks.length:=λb hb=>Px.1 (NA.1 hb).1
 refine A2 (λk l h'=>∃(i:Nat) (I:Nat->Option (List Nat×V)),l=[.ptr lt 0,.slice ln 0 u.blocks.length,Y,.int .i64 ((lI u kp).length:Nat),.int .i64 i]/\i+k=(lI u kp).length/\Sn F h L h'/\
  (∀b B w,bs[b]? =some (B,w)->I b=some (if b∈(lI u kp).take i then B.next.map (uT kp) else B.next,w))/\
  ei L h' (eQ tO fE ((lI u kp).map λb=>(ru u kp b,Mt bs b)) Y::eQ eN en ns (.slice ln 0 u.blocks.length)::eQ eB jf kl (.slice lk 0 u.blocks.length)::eQ vW gy n wv::eQ tO fE bs wb::fJ en d::fJ en I::eQ eZ en r kU::eo lt ty [.int .i64 u.func,.int .i64 u.pc,wv,wb,ws,kU]::cs)) ?_ (k:=(lI u kp).length)
  ⟨0,fn,rfl,by omega,s4,λb B w b4=>by rw[hb.row b B w b4];simp,H4⟩
 clear H4 s4;rintro k _ _ _ _ _ h5 ⟨i,I,⟨⟩,X,s5,ah,H5⟩;unfold tB;by_cases hi:i<(lI u kp).length
 ·refine gw ?_;have hx:=gQ hi;have ak:=BB hx;have bE:=bt _ (AO hi);have b5:(lI u kp)[i] ∉ (lI u kp).take i:=λhm=>by
   obtain⟨j,hj⟩:=mA.1 hm;have am:=(iB.1 hj).1;rw[FY]at am;rw[VF (by omega)]at hj;have:=p7 br hj hx;omega
  generalize (lI u kp)[i]=b at*;obtain⟨⟨B,wn⟩,M⟩:∃y,bs[b]? =some y:=⟨_,gQ (by omega)⟩
  have U:u.blocks[b]? =some B:=by rw[<-hb.fst,wq,M];rfl
  have aJ:Mt bs b=wn:=by unfold Mt;rw[M]
  have bu:((lI u kp).map λb=>(ru u kp b,Mt bs b))[i]? =some (ru u kp b,wn):=by rw[wq,hx,<-aJ];rfl
  have cp:=g.walk.two b B U;have b6:∀t∈B.next,t<u.blocks.length:=λt ht=>g.walk.nx b t (by unfold next;rw[U];exact ht);have ac:=ah b B wn M;rw[if_neg b5]at ac;obtain⟨lo,oo,w1,z1,_,⟨pv,pp,rfl,_,_,_⟩,z2⟩:=H5.Vw 0 rfl bu .i64;have z1:gD 6 Y (.int .i64 i)=some (.ptr lo oo):=z1;have z3:=z2 3 wn rfl;refine ed z1 (oF z3 (ed (H5.rows 6 rfl ac).len ?_))
  refine Br (λk' l h'=>∃(j:Nat) (I:Nat->Option (List Nat×V)),l=[.ptr lt 0,.slice ln 0 u.blocks.length,Y,.int .i64 i,.int .i64 ((lI u kp).length:Nat),.int .i64 i,wn,.int .i64 B.next.length,.int .i64 j]/\j+k' = B.next.length/\Sn F h L h'/\
   (∀c B w,c≠b->bs[c]? =some (B,w)->I c=some (if c∈(lI u kp).take i then B.next.map (uT kp) else B.next,w))/\I b=some ((B.next.take j).map (uT kp)++B.next.drop j,wn)/\
   ei L h' (eQ tO fE ((lI u kp).map λb=>(ru u kp b,Mt bs b)) Y::eQ eN en ns (.slice ln 0 u.blocks.length)::eQ eB jf kl (.slice lk 0 u.blocks.length)::eQ vW gy n wv::eQ tO fE bs wb::fJ en d::fJ en I::eQ eZ en r kU::eo lt ty [.int .i64 u.func,.int .i64 u.pc,wv,wb,ws,kU]::cs)) ?_ (k:=B.next.length)
   ⟨0,I,rfl,by omega,s5,λc B w _ hc=>ah c B w hc,ac,H5⟩
  clear H5 s5 z2 z3 ac ah;rintro k' _ _ _ _ _ _ _ _ _ h6 ⟨j,I,⟨⟩,ag,s6,ah,ac,T⟩;unfold tm;obtain⟨b7,b8,w1,z4,_,⟨pv,pp,rfl,_,_,_⟩,z2⟩:=T.Vw 0 rfl bu .i64;have z4:gD 6 Y (.int .i64 i)=some (.ptr b7 b8):=z4;have z3:=z2 3 wn rfl;by_cases hj:j<B.next.length
  ·refine gw ?_;have hn:=gQ hj;have aF:((B.next.take j).map (uT kp)++B.next.drop j)[j]? =some B.next[j]:=by
    rw[Rr (by simp;omega)];simp[FY,ZF (YB hj)]
   have bw:((B.next.take j).map (uT kp)++B.next.drop j).set j (uT kp B.next[j])=(B.next.take (j+1)).map (uT kp)++B.next.drop (j+1):=by
    have hL:((B.next.take j).map (uT kp)).length=j:=by rw[Fk,FY];omega
    rw[BB hn,EV,Cy,Yh hj,List.set_append_right _ _ (by omega),hL,Nat.sub_self];rfl
   have aU:j<((B.next.take j).map (uT kp)++B.next.drop j).length:=(iB.1 aF).1;have b9:=b6 _ (AO hj);generalize B.next[j]=t at*;obtain⟨l1,o1,_,x1,x2⟩:=(T.rows 6 rfl ac).read.nat aF .i64;obtain⟨l2,o2,y1,y2⟩:=T.HX 1 rfl (ai t b9) .i64;obtain⟨l3,o3,h7,e1,e2,n7,Z,s7⟩:=T.VC 6 rfl ac aU (uT kp t);refine ed x1 (ed x2 (ed z4 (oF z3 (ed y1 (ed y2 (ed e1 ?_))))));rw[e2,ef];simp only[iO,kZ]at Z;refine⟨n7,fM ⟨k'-1,by omega,j+1,_,rfl,by omega,s6.trans s7,λc C w bx hc=>?_,?_,Z⟩⟩
   ·rw[iz _ _ bx];exact ah c C w bx hc
   ·rw[im,bw]
  refine iC ?_;obtain rfl:j=B.next.length:=by omega
  rw[IT,List.drop_length,Co]at ac;refine fM ⟨k-1,by omega,i+1,I,rfl,by omega,s6,λc C w hc=>?_,T⟩;rw[ak];by_cases e:c=b
  ·subst e;rw[M]at hc;cases hc;rw[ac,if_pos (by simp)]
  ·rw[ah c C w e hc];simp[e]
 refine iC ?_;obtain rfl:i=(lI u kp).length:=by omega
 rw [IT]at ah;clear X k hi;obtain⟨h6,e6,_,T,s6⟩:=H5.st 8 (o:=3) (u:=Y) rfl (by simp) (H5.one 0 rfl);refine ed (fT _ _) (ed (ez _ _ _) (ed (ez _ _ _) ?_));have ca:gB 1 (.ptr lt (0+0+3)) Y h5=some (.val .undef h6):=e6;rw[ca,ef];simp only[iO,kZ]at T;have cb:∀b,b∈lI u kp->∃B,u.blocks[b]? =some B/\bs[b]? =some (B,Mt bs b)/\u.blocks.getD b Ms=B:=λb cd=>by
  obtain⟨⟨B,w⟩,M⟩:∃y,bs[b]? =some y:=⟨_,gQ (by have:=bt b cd;omega)⟩
  have U:u.blocks[b]? =some B:=by rw[<-hb.fst,wq,M];rfl
  exact⟨B,U,by unfold Mt;rw[M],by rw[E3,U];rfl⟩
 have Z:=T.Xe (E':=tO) (ys:=(lI u kp).map λb=>(FG u kp b,Mt bs b)) 0 rfl rfl (by simp) λk x y ws hx hy hr=>by
  rw[wq]at hx hy
  cases hkk:(lI u kp)[k]? with
  |none=>rw[hkk]at hx;cases hx
  | some b=>
    rw[hkk]at hx hy;cases hx;cases hy;exact hr
 simp only[iO]at Z;obtain⟨ar,au⟩:∃ar:Nat->Option (List Nat×V),∀k,ar k=match (lI u kp)[k]? with|some b=>I b|none=>Option.none:=⟨_,λ_=>rfl⟩
 have bz:∀{k b:Nat},(lI u kp)[k]? =some b->ar k=I b:=λX=>by rw[au,X]
 have J:=Z.OE 6 rfl ar (λk=>(lI u kp).getD k 0) (λk p X=>by
  cases hkk:(lI u kp)[k]? with
  |none=>rw[au,hkk]at X;cases X
  |some b=>rw[bz hkk]at X;rw[E3,hkk];exact X) (λk k' p q X ag e=>by
  cases hkk:(lI u kp)[k]? with
  |none=>rw[au,hkk]at X;cases X
  | some b=>
    cases hkk':(lI u kp)[k']? with
    |none=>rw[au,hkk']at ag;cases ag
    | some b'=>
      simp only[E3,hkk,hkk',Option.getD_some]at e;subst e;exact p7 br hkk hkk')
 simp only[iO,kZ]at J;have hU:∀c v,AW u kp c u.blocks.length 0 v↔∃b k,At u v b k/\kp b=c:=λc v=>by
  constructor
  ·rintro(⟨b,k,_,h3,h4⟩|⟨k,h3,_⟩)
   ·exact⟨b,k,h4,h3⟩
   ·omega
  ·rintro⟨b,k,h4,h3⟩;exact .inl ⟨b,k,(let⟨_,h,_⟩:=h4;(iB.1 h).1),h3,h4⟩
 refine H L h6 seen post kp ⟨u.func,u.pc,n.map Prod.fst,(lI u kp).map (FG u kp),u.eh⟩ n ((lI u kp).map λb=>(FG u kp b,Mt bs b)) d ar r Y (s5.trans s6) G a7 ⟨rfl,rfl,rfl,rfl,by rw[Fk,D.len],λv b k x B N hx ae S U=>?_,λv x hx hn=>?_⟩ ⟨rfl,λv x w hx=>?_,λv hv=>D.out v (by rw[D.len]at hv;exact hv)⟩ ⟨by rw[List.map_map];rfl,λk B w hx=>?_,λk X=>?_⟩ ⟨aa.len,λv b k N S hv=>aa.gone v ((hU false v).2 ⟨b,k,N,S⟩) hv,λv hn=>aa.same v λhD=>hn ((hU false v).1 hD)⟩ J.Si
 ·obtain⟨w,f,_⟩:=D.IE v b k x B ((hU true v).2 ⟨b,k,N,S⟩) N hx ae U;rw[wq,f];rfl
 ·obtain⟨w,f,_⟩:=D.same v x hx λ⟨f,K⟩=>hn ⟨f,(hU true v).1 K⟩;rw[wq,f];rfl
 ·have aC:v<u.ee.length:=by rw[<-D.len];exact(iB.1 hx).1
  have hy:=gQ aC;generalize u.ee[v]=y at*;by_cases hD:y.op=21/\AW u kp true u.blocks.length 0 v
  ·obtain⟨b,k,N,S⟩:=(hU true v).1 hD.2;obtain⟨B,U,cq⟩:=id N;obtain⟨w',f,K⟩:=D.IE v b k y B hD.2 N hy hD.1 U;rw[hx]at f;cases f;exact K
  ·obtain⟨w',f,K⟩:=D.same v y hy hD;rw[hx]at f;cases f;exact K
 ·rw[wq]at hx
  cases hkk:(lI u kp)[k]? with
  |none=>rw[hkk]at hx;cases hx
  | some b=>
    rw[hkk]at hx;cases hx;obtain⟨B,U,M,aL⟩:=cb b (xQ hkk);rw[bz hkk,ah b B _ M,if_pos (xQ hkk)];unfold FG;rw[aL]
 ·rw[Fk]at X;rw[au,Jp X]
end
