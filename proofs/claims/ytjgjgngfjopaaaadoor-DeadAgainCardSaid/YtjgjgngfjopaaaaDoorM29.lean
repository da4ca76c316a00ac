/- Parts. -/
import Derived.Test.YtjgjgngfjopaaaaDoorM28
namespace Go.Proofs.YtjgjgngfjopaaaaDoor.Hx
open Un Dm
def qA.fix{α:Type}(E:qA α)(F:Nat->Prop)(h:Hp):qA α where
 sz:=E.sz
 rel _ _ x cs:=E.rel F h x cs
 len h:=E.len h
 one h:=E.one h
 fk _ h:=h
 mono _ h:=h
section
variable{F F':Nat->Prop}{h h':Hp}{cs ds:List Pc}{Q:fy}{u:U}{vv vb vs:V}
theorem en.WJ{α:Type}{E:qA α}{ty:Nat}{xs:List α}{v:V}(H:en F h cs)(i:Nat)(hi:cs[i]? =some (eR E ty xs v)){k:Nat}{x:α}(c:xs[k]? =some x)(kd:IntKind) :
  ∃l o w,gD E.sz v (.int kd k)=some (.ptr l o)/\gg E.sz (.ptr l o) h=some (.agg w)/\E.rel F h x w/\∀j u,w[j]? =some u->ez (.ptr l (o+j)) h=some u:=by
 obtain⟨d,rfl⟩:=iR.1 c;have a:=(iR.1 hi).1;exact(H.reR (E':=E.fix F h) i hi rfl rfl λk x y cs e b f=>by rw[e]at b;cases b;exact f).ix i (EK a) d kd
theorem ld5{l ty:Nat}{a b c d e f:V}(H:en F h cs)(i:Nat)(hi:cs[i]? =some (ev l ty [a,b,c,d,e,f])):gg 5 (.ptr l 0) h=some (.agg [a,b,c,d,e]):=by
 rw[ET (H.get i hi)];rfl
theorem en.VE(H:en F h cs)(i j:Nat) {ty d:Nat}{bs:List (Bk×V)}{fn:Nat->Option (List Nat×V)}{wb:V}{l:List Bk}(hi:cs[i]? =some (eR vf ty bs wb))(f:cs[j]? =some (fT d fn))(hc:Xk l bs fn):iC eK (λl=>F l\/LC cs l) h l wb:=by
 refine(H.row i hi).read.reR rfl (λm c=>c.imp id λc=>⟨i,_,hi,c⟩) (by rw[<-hc.fst,CD]) λk x y ws e g n=>?_;rw[<-hc.fst,zG,e]at g;cases g;have o:=(H.rows j f (hc.row k x.1 x.2 e)).Yo (F':=λl=>F l\/LC cs l) (λ_ h=> .inl h) λm c=> .inr ⟨j,_,f,k,_,_,hc.row k x.1 x.2 e,c⟩;obtain⟨a,b,p,q,e3,_⟩:=n;exact⟨a,x.2,b,p,q.mono λm c=>c.imp id λc=>⟨i,_,hi,c⟩,o,e3.mono λm c=>c.imp id λc=>⟨i,_,hi,c⟩⟩
end
structure K7 (u:U):Prop where
 walk:zbf u
 nv:u.ef.length<=3000
 OM:∀(v:Nat) (b:Nat) (k:Nat) (a:Nat) (k':Nat),At u v b k->At u v a k'->b=a/\k=k'
 mb:∀(v:Nat) (b:Nat) (k:Nat),At u v b k->v<u.ef.length
 pre:∀(b:Nat) (B:Bk),u.blocks[b]? =some B->B.fg.length<=700/\∀p∈B.fg,p<u.blocks.length
 Ko:∀(v b k:Nat) (x:Vl) (B:Bk),At u v b k->u.ef[v]? =some x->x.op=21->u.blocks[b]? =some B->x.args.length=B.fg.length
 args:∀(v:Nat) (x:Vl),u.ef[v]? =some x->x.args.length<=700
structure PX (u:U) (kp:Nat->Bool) (D:Nat->Prop) (xs:List (Vl×V)) (fa:Nat->Option (List Nat×V)):Prop where
 len:xs.length=u.ef.length
 out:∀i,u.ef.length<=i->fa i=none
 Ko:∀(v b k:Nat) (x:Vl) (B:Bk),D v->At u v b k->u.ef[v]? =some x->x.op=21->u.blocks[b]? =some B->∃w,xs[v]? =some ({x with args:=vG u kp b B.fg x.args},w)/\fa v=some (vG u kp b B.fg x.args,w)
 same:∀(v:Nat) (x:Vl),u.ef[v]? =some x->¬(x.op=21/\D v)->∃w,xs[v]? =some (x,w)/\fa v=some (x.args,w)
structure AsD (D:Nat->Prop) (az a:List Int):Prop where
 len:a.length=az.length
 gone:∀(v:Nat),D v->v<az.length->a[v]? =some (-1)
 same:∀(v:Nat),¬D v->a[v]? =az[v]?
theorem PX.more{D D':Nat->Prop}{u:U}{kp:Nat->Bool}{xs:List (Vl×V)}{fa:Nat->Option (List Nat×V)}(c:PX u kp D xs fa)(h:∀v,D' v->D v\/∃x,u.ef[v]? =some x/\x.op≠21)(e:∀v,D v->D' v):PX u kp D' xs fa where
 len:=c.len
 out:=c.out
 Ko v b k x B hD Ri hx hop hB:=by
  rcases h v hD with a|⟨y,a,d⟩
  ·exact c.Ko v b k x B a Ri hx hop hB
  ·rw[hx]at a;cases a;exact absurd hop d
 same v x hx hn:=c.same v x hx λ⟨a,d⟩=>hn ⟨a,e v d⟩
theorem PX.put{D:Nat->Prop}{u:U}{kp:Nat->Bool}{xs:List (Vl×V)}{fa:Nat->Option (List Nat×V)}(g:K7 u)(c:PX u kp D xs fa){v b k:Nat}{x:Vl}{B:Bk}(f:At u v b k)(d:u.ef[v]? =some x)(j:x.op=21)(l:u.blocks[b]? =some B)(w:V) :
  PX u kp (λa=>D a\/a=v) (xs.set v ({x with args:=vG u kp b B.fg x.args},w)) (up fa v (some (vG u kp b B.fg x.args,w))) where
 len:=by rw[Mi];exact c.len
 out i hi:=by
  have:=(iR.1 d).1;rw[iZ _ _ (by omega)];exact c.out i hi
 Ko a b' k' y B' hD hat' hy hop' hB':=by
  by_cases e:a=v
  ·subst e;obtain⟨rfl,rfl⟩:=g.OM _ _ _ _ _ f hat';rw[d]at hy;cases hy;rw[l]at hB';cases hB';exact⟨w,EK (by rw[c.len];exact(iR.1 d).1),ji _ _ _⟩
  ·rw[C8 λh=>e h.symm,iZ _ _ e];exact c.Ko a b' k' y B' (hD.resolve_right e) hat' hy hop' hB'
 same a y hy hn:=by
  by_cases e:a=v
  ·subst e;rw[d]at hy;cases hy;exact absurd ⟨j,.inr rfl⟩ hn
  ·rw[C8 λh=>e h.symm,iZ _ _ e];exact c.same a y hy λ⟨m,n⟩=>hn ⟨m,.inl n⟩
theorem AsD.congr{D D':Nat->Prop} {az a:List Int}(c:AsD D az a)(h:∀v,D v↔D' v):AsD D' az a:=
 ⟨c.len,λv hv=>c.gone v ((h v).2 hv),λv hv=>c.same v λb=>hv ((h v).1 b)⟩
theorem AsD.put{D:Nat->Prop} {az b:List Int}(c:AsD D az b)(v:Nat):AsD (λa=>D a\/a=v) az (b.set v (-1)) where
 len:=by rw[Mi];exact c.len
 gone a ha hl:=by
  by_cases e:a=v
  ·subst e;exact EK (by rw[c.len];exact hl)
  ·rw[C8 λh=>e h.symm];exact c.gone a (ha.resolve_right e) hl
 same a ha:=by
  rw[C8 λh=>ha (.inr h.symm)];exact c.same a λh=>ha (.inl h)
def BU(u:U)(kp:Nat->Bool)(c:Bool)(i j:Nat)(v:Nat):Prop:=(∃b k,b<i/\kp b=c/\At u v b k)\/∃k,k<j/\At u v i k
section
variable{F F':Nat->Prop}{h h':Hp}{cs ds:List Pc}{Q:fy}{u:U}
theorem en.zal{ty:Nat}{xs:List Nat}{v q:V}(H:en F h cs)(i:Nat)(hi:cs[i]? =some (eR eN ty xs v)){k x:Nat}(b:xs[k]? =some x){kd:IntKind}(hq:gD 1 v (.int kd (k:Nat))=some q):ez q h=some (.I x):=by
 obtain⟨l,o,a,c⟩:=H.KO i hi b kd;rw[hq]at a;cases a;exact c
theorem en.zcI(H:en F h cs)(i:Nat){l n:Nat}(hi:cs[i]? =some (ev l ey [.I n])):en F h (cs.set i (eR eN ey [n] (.slice l 0 1))):=by
 have a:=H.ok i _ hi;exact H.swap hi (.inr ⟨l,_,rfl,a.2.1,a.2.2,a.1,⟨[.I n],[],rfl,rfl,trivial⟩,rfl⟩) λm e=>e.symm
theorem en.VT{ι:Type} [DecidableEq ι] {ty:Nat}{f:ι->Option (List Nat×V)}{xs:List Nat}{v:V}(H:en F h (eR eN ty xs v::cs))(n:Nat)(p:cs[n]? =some (fT ty f)){i:ι}(hi:f i=Option.none):en F h (cs.set n (fT ty (up f i (some (xs,v))))):=by
 have h0:=H.ok 0 _ rfl;have q:=H.ok (n+1) _ p;have z:∀l,Loc v l->¬(fT ty f).lX l:=λl g=>H.Dl 0 (n+1) _ _ rfl p (by omega) l g;have D:∀l,(fT ty (up f i (some (xs,v)))).lX l->Loc v l\/(fT ty f).lX l:=by
  rintro l ⟨k,ys,w,m,A⟩;by_cases e:k=i
  ·subst e;rw[ji]at m;cases m;exact .inl A
  ·rw[iZ _ _ e]at m;exact .inr ⟨k,ys,w,m,A⟩
 have r:∀j c,j≠n->cs[j]? =some c->∀l,(fT ty (up f i (some (xs,v)))).lX l->¬c.lX l:=λj c o hc l g=>(D l g).elim (H.Dl 0 (j+1) _ c rfl hc (by omega) l) (H.Dl (n+1) (j+1) _ c p hc (by omega) l);refine⟨H.fl,λj c hc=>?_,λj k a b E B u l g d=>?_⟩
 ·rcases yA hc with⟨_,rfl⟩|⟨_,s⟩
  ·refine ⟨λj ys w o=>?_,λj k ys w C x o m p l g d=>?_⟩
   ·by_cases e:j=i
    ·subst e;rw[ji]at o;cases o;exact h0
    ·rw[iZ _ _ e]at o;exact q.1 j ys w o
   ·by_cases e:j=i
    ·subst e;rw[ji]at o;cases o;rw[iZ _ _ λe=>p e.symm]at m;exact z l g ⟨k,C,x,m,d⟩
    ·rw[iZ _ _ e]at o;by_cases e':k=i
     ·subst e';rw[ji]at m;cases m;exact z l d ⟨j,ys,w,o,g⟩
     ·rw[iZ _ _ e']at m;exact q.2 j k ys w C x o m p l g d
  ·exact H.ok (j+1) c s
 ·rcases yA E with⟨y,rfl⟩|⟨y,q⟩
  ·rcases yA B with⟨t,_⟩|⟨t,s⟩
   ·exact u (y.trans t.symm)
   ·exact r k b t s l g d
  ·rcases yA B with⟨t,rfl⟩|⟨_,s⟩
   ·exact r j a y q l d g
   ·exact H.Dl (j+1) (k+1) a b q s (by omega) l g d
theorem en.UB{a b c d e f x y z:Pc}(H:en F h (a::b::c::d::e::f::x::y::z::cs)):en F h (d::a::f::x::y::z::cs):=
 H.re (λi=>match i with|0=>3|1=>0|n+2=>n+5) (λi c hc=>match i,hc with|0,hc=>hc|1,hc=>hc|n+2,hc=>hc) λi j _ _ e=>by
  match i,j with
  |0,0|1,1=>rfl
  |0,1|1,0=>simp at e
  |0,n+2|1,n+2|n+2,0|n+2,1=>simp at e;try omega
  |n+2,k+2=>simp at e;omega
theorem zd{α:Type}{l:List α}{i:Nat}{x:α}(h:l[i]? =some x):l.take (i+1)=l.take i++[x]:=by
 obtain⟨a,rfl⟩:=iR.1 h;exact M9 a
theorem vN(p:Nat->Bool)(i:Nat):(List.range (i+1)).filter p=(List.range i).filter p++if p i=true then[i] else[]:=by
 rw[XY,ZG,WC];rfl
end
def OP(bs:List (Bk×V))(b:Nat):V:=match bs[b]? with
 |some x=>x.2
 |none=> .undef
def sO(u:U)(kp:Nat->Bool)(b:Nat):Bk:={u.blocks.getD b Pg with fg:=yc u kp b (u.blocks.getD b Pg).fg}
section
variable{F F':Nat->Prop}{h h':Hp}{cs ds:List Pc}{Q:fy}{u:U}{wv wb ws oT:V}{lt ty:Nat}{az:List Int}{xs:List (Vl×V)}{bs:List (Bk×V)}{fa fn:Nat->Option (List Nat×V)}
theorem UA(g:K7 u)(hc:XW u.ef xs fa)(S:Xk u.blocks bs fn)(cl:az.length=u.ef.length)(bD:ws.one=true)
  (H0:en F h (eR yj hH xs wv::eR vf fQ bs wb::fT ey fa::fT ey fn::eR eZ ey az oT::ev lt ty [.I u.func,.I u.pc,wv,wb,ws,oT]::cs))
  (H:∀F' h' seen post kp u' r aV d J s aW,Sn F h F' h'->Ie u.blocks.length (next u) seen post []->kp=(λb=>post.reverse.contains b)->Cut u kp u'->XW u'.ef r d->Xk u'.blocks aV J->N3 u kp az s->
   en F' h' (eR yj hH r wv::eR vf fQ aV aW::fT ey d::fT ey J::eR eZ ey s oT::ev lt ty [.I u.func,.I u.pc,wv,aW,ws,oT]::cs)->Q (.tuple []) h') :
  cP CS na [.ptr lt 0] h Q:=by
 refine Fc rfl rfl ?_;unfold xL;have nb:=g.walk.nb;have nv:=g.nv;have aX:bs.length=u.blocks.length:=by rw[<-S.fst,CD]
 have bE:xs.length=u.ef.length:=by rw[<-hc.fst,CD]
 have fz:∀{h:Hp} {cs:List Pc},fH 0 (.ptr lt 0)=some (.ptr lt 0):=rfl;refine ed (fX _ _) (ed (eJ _ _ _) (oF (H0.ld 5 rfl rfl) (ed (H0.len 1 rfl) ?_)));rw[aX,jQ (z:=V.bool false) rfl (by decide) (by omega),fE];obtain⟨H1,s1⟩:=H0.make (E:=eB) (ty:=jd) (y:=false) (u:=V.bool false) u.blocks.length rfl rfl;generalize h.new (.cells jd 1 true false (List.replicate u.blocks.length (V.bool false)))=n at*;generalize h.next=lk at*;refine ed (fX _ _) (ed (eJ _ _ _) (ed (ld5 H1 6 rfl) ?_));have aD:gv (uC u wv wb ws)=true:=by simp only[uC,eQ,H1.one 1 rfl,H1.one 2 rfl,bD];rfl
 refine NR g.walk H1.zdZ aD (H1.VE 2 4 rfl rfl S) λL vo seen post aG aY G=>?_;have H2:=H1.zcN aG aY;have aZ:=s1.trans aG.back;clear aG aY aD fz s1 H1;have ae:∀b∈post.reverse,b<u.blocks.length:=λb S=>G.pre b (Xd.1 S);have bG:post.reverse.length<=u.blocks.length:=by
  have n:=G.nodup;rw[SM,Eo]at n;rw[List.length_reverse];exact jK _ _ n G.pre
 generalize a5:post.reverse=T at H2 ae bG⊢;refine ed (H2.len 0 rfl) ?_
 refine Cp (λk l h'=>∃(i:Nat) (kl:List Bool),l=[.ptr lt 0,.slice lk 0 u.blocks.length,vo,.I T.length,.I i]/\i+k=T.length/\kl.length=u.blocks.length/\(∀b,b<u.blocks.length->kl[b]? =some ((T.take i).contains b))/\Sn F h F h'/\
  en F h' (eR eN ey T vo::eR eB jd kl (.slice lk 0 u.blocks.length)::eR yj hH xs wv::eR vf fQ bs wb::fT ey fa::fT ey fn::eR eZ ey az oT::ev lt ty [.I u.func,.I u.pc,wv,wb,ws,oT]::cs)) ?_ (k:=T.length)
  ⟨0,_,rfl,by omega,Pl,λb S=>by rw[Wb,if_pos S];rfl,aZ,H2⟩
 rintro k _ _ _ _ _ h3 ⟨i,kl,⟨⟩,Z,a6,U,s3,H3⟩;unfold uV;by_cases hi:i<T.length
 ·refine gG ?_;have f:=gP hi;have ak:T.take (i+1)=T.take i++[T[i]]:=M9 hi;generalize T[i]=b at*;have bH:=ae b (A7 f);obtain⟨l1,o1,x1,x2⟩:=H3.KO 0 rfl f .i64;obtain⟨l2,o2,h4,e1,e2,_,H4,s4⟩:=H3.Ig 1 rfl (k:=b) (y:=true) (u:=V.bool true) (by omega) rfl rfl rfl;refine ed x1 (ed x2 (ed e1 ?_));rw[e2,ei];simp only[iY,lj]at H4;refine fN ⟨k-1,by omega,i+1,kl.set b true,rfl,by omega,by simp[a6],λc aH=>?_,s3.trans s4,H4⟩;rw[ak];by_cases e:c=b
  ·subst e;rw[EK (by omega)];simp
  ·rw[C8 λh=>e h.symm,U c aH];simp[e]
 refine iI ?_;obtain rfl:i=T.length:=by omega
 rw[Jh]at U;clear Z k H2;have H3:=H3.tail;obtain⟨kp,a7⟩:∃kp:Nat->Bool,(λb=>T.contains b)=kp:=⟨_,rfl⟩
 have U:∀b,b<u.blocks.length->kl[b]? =some (kp b):=λb S=>by rw[U b S,<-a7]
 have a8:kp=λb=>post.reverse.contains b:=by rw[a5,a7]
 have a9:fF (.slice lk 0 u.blocks.length)=some (.I u.blocks.length):=rfl;refine ed a9 ?_;rw[jQ (z:=V.I 0) rfl (by decide) (by omega),fE];obtain⟨H4,s4⟩:=H3.make (E:=eN) (ty:=ey) (y:=0) (u:=V.I 0) u.blocks.length rfl rfl;generalize h3.new (.cells ey 1 true false (List.replicate u.blocks.length (V.I 0)))=h4 at*;generalize h3.next=ln at*;refine ed a9 ?_;have ba:=s3.trans s4;clear aZ s3 s4 H3
 refine Cv (λk l h'=>∃(i:Nat) (ns:List Nat),l=[.ptr lt 0,.slice lk 0 u.blocks.length,.slice ln 0 u.blocks.length,.I (((List.range i).filter kp).length:Nat),.slice lk 0 u.blocks.length,.I u.blocks.length,.I i]/\i+k=u.blocks.length/\ns.length=u.blocks.length/\(∀b,b<i->ns[b]? =some (wK kp b))/\(∀b,i<=b->b<u.blocks.length->ns[b]? =some 0)/\Sn F h F h'/\
  en F h' (eR eN ey ns (.slice ln 0 u.blocks.length)::eR eB jd kl (.slice lk 0 u.blocks.length)::eR yj hH xs wv::eR vf fQ bs wb::fT ey fa::fT ey fn::eR eZ ey az oT::ev lt ty [.I u.func,.I u.pc,wv,wb,ws,oT]::cs)) ?_ (k:=u.blocks.length)
  ⟨0,_,rfl,by omega,Pl,λb S=>by omega,λb _ S=>by rw[Wb,if_pos S],ba,H4⟩
 clear ba H4 H0;rintro k _ _ _ _ _ _ _ h3 ⟨i,ns,⟨⟩,Z,ai,aw,ax,s3,H3⟩;unfold uL;have bb:((List.range i).filter kp).length<=i:=by
  have:=wBg kp (List.range i)
  rwa [Xe]at this
 by_cases hi:i<u.blocks.length
 ·refine gG ?_;obtain⟨l1,o1,x1,x2⟩:=H3.GV 1 rfl (U i hi) .i64;refine ed x1 (ed x2 (js ?_));have hr:((List.range (i+1)).filter kp).length=((List.range i).filter kp).length+(if kp i=true then 1 else 0):=by
   rw[XY,ZG,y6,WC];split <;> rfl
  by_cases D:kp i=true
  ·refine gw D ?_;obtain⟨l2,o2,h4,e1,e2,_,H4,s4⟩:=H3.Ig 0 rfl (k:=i) (y:=((List.range i).filter kp).length) (u:=V.I (((List.range i).filter kp).length:Nat)) (by omega) rfl rfl rfl;refine ed e1 ?_;rw[e2,ei];simp only[iY]at H4;refine fN (tA ?_);unfold nK;rw[if_pos D]at hr;refine fN ⟨k-1,by omega,i+1,ns.set i ((List.range i).filter kp).length,by rw[hr],by omega,by simp[ai],λb S=>?_,λb S aI=>?_,s3.trans s4,H4⟩
   ·by_cases e:b=i
    ·subst e;rw[EK (by omega)];unfold wK;rw[if_pos D]
    ·rw[C8 λh=>e h.symm];exact aw b (by omega)
   ·rw[C8 (by omega)];exact ax b (by omega) aI
  ·refine gi D (tA ?_);unfold nK;rw[if_neg D,X8]at hr;refine fN ⟨k-1,by omega,i+1,ns,by rw[hr];rfl,by omega,ai,λb S=>?_,λb S aI=>ax b (by omega) aI,s3,H3⟩;by_cases e:b=i
   ·subst e;rw[ax b (jj _) hi];unfold wK;rw[if_neg D]
   ·exact aw b (by omega)
 refine iI ?_;obtain rfl:i=u.blocks.length:=by omega
 clear Z k ax bb;refine ed (fX _ _) (ed (eJ _ _ _) (oF (H3.ld 7 rfl rfl) (ed (H3.len 3 rfl) ?_)));rw[aX];have H3:en F h3 (eR vf fQ [] .ee::eR eN ey ns (.slice ln 0 u.blocks.length)::eR eB jd kl (.slice lk 0 u.blocks.length)::eR yj hH xs wv::eR vf fQ bs wb::fT ey fa::fT ey fn::eR eZ ey az oT::ev lt ty [.I u.func,.I u.pc,wv,wb,ws,oT]::cs):=H3.add .nil λ_ h=>h;have ai:∀b,b<u.blocks.length->ns[b]? =some (wK kp b):=aw
 refine Cu (λk l h'=>∃(F':Nat->Prop) (i:Nat) (r:List (Vl×V)) (d:Nat->Option (List Nat×V)) (s:List Int) (wo:V),l=[.ptr lt 0,.slice lk 0 u.blocks.length,.slice ln 0 u.blocks.length,wo,wb,.I u.blocks.length,.I i]/\i+k=u.blocks.length/\Sn F h F' h'/\
  PX u kp (BU u kp true i 0) r d/\AsD (BU u kp false i 0) az s/\
  en F' h' (eR vf fQ (((List.range i).filter kp).map λb=>(sO u kp b,OP bs b)) wo::eR eN ey ns (.slice ln 0 u.blocks.length)::eR eB jd kl (.slice lk 0 u.blocks.length)::eR yj hH r wv::eR vf fQ bs wb::fT ey d::fT ey fn::eR eZ ey s oT::ev lt ty [.I u.func,.I u.pc,wv,wb,ws,oT]::cs)) ?_ (k:=u.blocks.length)
  ⟨F,0,xs,fa,az,.ee,rfl,by omega,s3,?_,?_,H3⟩
 rotate_left
 ·refine ⟨bE,λi hi=>hc.out i (by omega),λv b k x B hD=>?_,λv x f _=>?_⟩
  ·rcases hD with⟨_,_,h,_⟩|⟨_,h,_⟩ <;> omega
  ·rw[<-hc.fst,zG]at f
   cases hy:xs[v]? with
   |none=>rw[hy]at f;cases f
   | some y=>
     rw[hy]at f;cases f;exact⟨y.2,rfl,hc.row v y.1 y.2 hy⟩
 ·refine⟨rfl,λv hD=>?_,λv _=>rfl⟩;rcases hD with⟨_,_,h,_⟩|⟨_,h,_⟩ <;> omega
 clear H3 s3 hi aw;rintro k _ _ _ wo _ _ _ h4 ⟨M,i,r,d,s,_,⟨⟩,Z,s4,I,aa,H4⟩;unfold uO;by_cases hi:i<u.blocks.length
 ·refine gG ?_;obtain⟨⟨B,wn⟩,N⟩:∃y,bs[i]? =some y:=⟨_,gP (by omega)⟩
  have X:u.blocks[i]? =some B:=by rw[<-S.fst,zG,N];rfl
  have aJ:OP bs i=wn:=by unfold OP;rw[N]
  obtain ⟨l1,o1,w1,x1,x2,⟨bv,bp,rfl,iv,ip,aK⟩,_⟩:=H4.WJ 4 rfl N .i64;have x1:gD 6 wb (.I i)=some (.ptr l1 o1):=x1;have x2:gg 6 (.ptr l1 o1) h4=some (.agg (kr B bv wn bp)):=x2;refine ed x1 (ed x2 ?_);refine iG H4 rfl rfl (by simp only[kr,eQ,iv.one,ip.one,aK];rfl) λh5 H5 s5=>?_;generalize h4.next=lb at*;have iv:=iv.since s5;have ip:=ip.since s5;clear x1 x2;obtain⟨l2,o2,y1,y2⟩:=H5.GV 3 rfl (U i hi) .i64;refine ed y1 (ed y2 (qi ?_));have ay:∀c v,BU u kp c (i+1) 0 v↔BU u kp c i 0 v\/(kp i=c/\∃k,At u v i k):=λc v=>by
   constructor
   ·rintro(⟨b,k,n,L,h3⟩|⟨k,n,_⟩)
    ·by_cases e:b=i
     ·subst e;exact .inr ⟨L,k,h3⟩
     ·exact .inl (.inl ⟨b,k,by omega,L,h3⟩)
    ·omega
   ·rintro((⟨b,k,n,L,h3⟩|⟨k,n,_⟩)|⟨n,k,L⟩)
    ·exact .inl ⟨b,k,by omega,L,h3⟩
    ·omega
    ·exact .inl ⟨i,k,by omega,n,L⟩
  have al:∀c j w,B.ef[j]? =some w->∀v,BU u kp c i (j+1) v↔BU u kp c i j v\/v=w:=λc j w hw v=>by
   constructor
   ·rintro(n|⟨k,n,L⟩)
    ·exact .inl (.inl n)
    ·by_cases e:k=j
     ·subst e;obtain⟨B',e1,e2⟩:=L;rw[X]at e1;cases e1;rw[hw]at e2;cases e2;exact .inr rfl
     ·exact .inl (.inr ⟨k,by omega,L⟩)
   ·rintro((n|⟨k,n,L⟩)|rfl)
    ·exact .inl n
    ·exact .inr ⟨k,by omega,L⟩
    ·exact .inr ⟨j,by omega,B,X,hw⟩
  have am:∀c,kp i=c->∀v,BU u kp c i B.ef.length v↔BU u kp c (i+1) 0 v:=λc bI v=>by
   rw[ay];constructor
   ·rintro(n|⟨k,n,L⟩)
    ·exact .inl (.inl n)
    ·exact .inr ⟨bI,k,L⟩
   ·rintro((n|⟨k,n,_⟩)|⟨_,k,B',e1,e2⟩)
    ·exact .inl n
    ·omega
    ·rw[X]at e1;cases e1;exact .inr ⟨k,(iR.1 e2).1,B,X,e2⟩
  have cg:B.ef.length<=u.ef.length:=by
   refine jK u.ef.length B.ef ?_ λv hv=>?_
   ·rw[wBm,Zp];intro a b ha S cm e;have:=(g.OM B.ef[a] i a i b ⟨B,X,gP ha⟩ ⟨B,X,by rw[e];exact gP S⟩).2;omega
   ·obtain⟨k,Z⟩:=mK.1 hv;exact g.mb v i k ⟨B,X,Z⟩
  by_cases D:kp i=true
  ·refine gw D ?_;have bJ:=g.pre i B X;have aL:u.blocks.getD i Pg=B:=by rw[BO,X];rfl
   have bq:∀{e sz:Nat} {a b:Bool} {cs:List V},O.beq (.cells e sz a b cs) (.cells e sz a b cs)=true:=O.gO _ _ _ _ _;refine oF (H5.ld 0 rfl rfl) (ed ip.len ?_);obtain⟨c,aM⟩:∃c:Nat->Bool,(λj=>kp (B.fg.getD j 0)&&(next u (B.fg.getD j 0)).contains i)=c:=⟨_,rfl⟩
   have aN:(List.range B.fg.length).filter c=xe u kp i B.fg:=by rw[<-aM];rfl
   have H5:=(H5.add (p:=eR eN ey [] .ee) .nil λ_ h=>h).add (p:=eR eN ey [] .ee) .nil λ_ h=>h
   refine B0 (λk' l h'=>∃(j:Nat) (Y A:V),l=[.ptr lt 0,.slice lk 0 u.blocks.length,.slice ln 0 u.blocks.length,wo,.I i,.ptr lb 0,Y,A,wb,.I u.blocks.length,.I i,bp,.I B.fg.length,.I j]/\j+k' = B.fg.length/\Sn F h M h'/\Sn M h5 M h'/\
    en M h' (eR eN ey (((List.range j).filter c).map λj=>wK kp (B.fg.getD j 0)) A::eR eN ey ((List.range j).filter c) Y::ev lb 50 (kr B bv wn bp)::eR vf fQ (((List.range i).filter kp).map λb=>(sO u kp b,OP bs b)) wo::eR eN ey ns (.slice ln 0 u.blocks.length)::eR eB jd kl (.slice lk 0 u.blocks.length)::eR yj hH r wv::eR vf fQ bs wb::fT ey d::fT ey fn::eR eZ ey s oT::ev lt ty [.I u.func,.I u.pc,wv,wb,ws,oT]::cs)) ?_ (k:=B.fg.length)
    ⟨0,.ee,.ee,rfl,by omega,s4.trans s5,Sn.refl _ _,H5⟩
   clear H5 H4;rintro k' _ _ _ _ _ _ Y A _ _ _ _ _ _ h6 ⟨j,_,_,⟨⟩,ag,s6,ab,W⟩;unfold uf;have aH:((List.range j).filter c).length<=j:=by
    have:=wBg c (List.range j)
    rwa [Xe]at this
   by_cases hj:j<B.fg.length
   ·refine gG ?_;have f:=gP hj;have aA:=bJ.2 B.fg[j] (zq hj);have bc:B.fg.getD j 0=B.fg[j]:=by rw[BO,f];rfl
    generalize B.fg[j]=p at*;obtain⟨l1,o1,_,x1,x2⟩:=(ip.since ab).nat f .i64;obtain⟨l2,o2,y1,y2⟩:=W.GV 5 rfl (U p aA) .i64;refine ed x1 (ed x2 (ed y1 (ed y2 ?_)));have aO:=vN c j;have an:c j=(kp p&&(next u p).contains i):=by rw[<-aM];simp only[bc]
    cases hkp':kp p with
    | false=>
      refine hY (hY (hY (hY (hY (hY (hY (hY (hY (hY (E0 ?_))))))))));refine ed (show iO (.bool false) .undef (.bool false)=some (.bool false) from rfl) (js (gi (by decide) (nz ?_)));unfold kZ;refine jO (m:=1) (by omega) (by omega) ⟨k'-1,by omega,j+1,Y,A,rfl,by omega,s6,ab,?_⟩;rw[aO,show c j=false by rw[an,hkp'];rfl]
      simpa using W
    | true=>
      obtain⟨⟨P,wp⟩,aP⟩:∃y,bs[p]? =some y:=⟨_,gP (by omega)⟩
      have hP:u.blocks[p]? =some P:=by rw[<-S.fst,zG,aP];rfl
      have bK:next u p=P.next:=by unfold next;rw[hP]
      obtain⟨l3,o3,w3,z1,_,⟨pv,pp,rfl,_,_,_⟩,z2⟩:=W.WJ 7 rfl aP .i64;have z1:gD 6 wb (.I (p:Nat))=some (.ptr l3 o3):=z1;have z3:=z2 3 wp rfl;refine fU (ed rfl (fU (ed (fX _ _) (fU (ed (eJ _ _ _) (fU (ed (eJ _ _ _) (fU (ed (W.ld 11 rfl rfl) (fU (ed rfl (fU (ed z1 (fU (ed (eJ _ _ _) (fU (ed z3 (fU (ed rfl (uS ?_))))))))))))))))))));refine zbz (W.rows 9 rfl (S.row p P wp aP)).read (by have:=g.walk.two p P hP;omega) i ?_;rw[<-bK];refine ed (show iO (.bool true) (.bool ((next u p).contains i)) (.bool false)=some (.bool ((next u p).contains i)) from rfl) (js ?_);rw[hkp',Z1]at an;by_cases aj:(next u p).contains i=true
      ·refine gw aj ?_
       rw[aj]at an;rw[nR,hK];obtain⟨H7,s7⟩:=W.zf ey (hO [j]);have H7:en M (h6.new (.cells 3 1 true false (hO [j]))) (ev h6.next 3 (hO [j])::_):=H7;have s7:Sn M h6 M (h6.new (.cells 3 1 true false (hO [j]))):=s7;generalize h6.new (.cells 3 1 true false (hO [j]))=h7 at*;generalize h6.next=r1 at*;obtain⟨l4,o4,n1,n2⟩:=H7.KO 5 rfl (ai p aA) .i64;refine ed n1 (ed n2 ?_);rw[nR,hK];obtain⟨K,s8⟩:=H7.zf ey (hO [wK kp p]);have K:en M (h7.new (.cells 3 1 true false (hO [wK kp p]))) (ev h7.next 3 (hO [wK kp p])::ev r1 3 (hO [j])::_):=K;have s8:Sn M h7 M (h7.new (.cells 3 1 true false (hO [wK kp p]))):=s8;generalize h7.new (.cells 3 1 true false (hO [wK kp p]))=h8 at*;generalize h7.next=r2 at*;refine⟨⟨K.get 0 rfl,bq⟩,K.zal 6 rfl (ai p aA) n1,⟨K.get 1 rfl,bq⟩,?_⟩;have K:=K.zcI 1 rfl;simp only[iY,lj]at K;obtain⟨va,h9,e9,n9,H9,s9⟩:=K.YU 3 1 rfl rfl (jM:=8) (by decide) (by decide) (by simp;omega);have ao:fe 3 1 8 Y (.slice r1 0 1) h8=some (.val va h9):=e9;simp only[iY,lj]at H9;rw[ao,ei];refine⟨n9,⟨H9.get 0 rfl,bq⟩,H9.zal 6 rfl (ai p aA) n1,?_⟩;have H9:=H9.zcI 0 rfl;simp only[iY]at H9;obtain⟨vc,bL,bQ,bR,ap,bS⟩:=H9.YU 2 0 rfl rfl (jM:=8) (by decide) (by decide) (by simp;omega);have bd:fe 3 1 8 A (.slice r2 0 1) h9=some (.val vc bL):=bQ;rw[bd,ei];simp only[iY,lj]at ap;refine⟨bR,nz ?_⟩;unfold kZ;have sA:=((s7.trans s8).trans s9).trans bS;refine jO (m:=1) (by omega) (by omega) ⟨k'-1,by omega,j+1,va,vc,rfl,by omega,s6.trans sA,ab.trans sA,?_⟩;rw[aO,an,if_pos rfl,Ji,Sp,SM,bc];exact ap.tail.tail
      ·refine gi aj (nz ?_)
       unfold kZ;refine jO (m:=1) (by omega) (by omega) ⟨k'-1,by omega,j+1,Y,A,rfl,by omega,s6,ab,?_⟩;rw[aO,show c j=false by rw[an];simpa using aj];simpa using W
   refine iI ?_;obtain rfl:j=B.fg.length:=by omega
   rw[aN]at W;have lT:(xe u kp i B.fg).length<=700:=by rw[<-aN];omega
   have bU:∀m∈xe u kp i B.fg,m<B.fg.length:=λm hm=>by
    unfold xe at hm;exact Sq.1 (MS.1 hm).1
   have be:(xe u kp i B.fg).map (λj=>wK kp (B.fg.getD j 0))=yc u kp i B.fg:=rfl;rw[be]at W;clear ag k' aH hj aN aM c be;refine oF (W.ld 2 rfl rfl) (ed iv.len ?_);have bf:=iv.since ab;clear iv ip ab
   refine B7 (λk' l h'=>∃(j:Nat) (r:List (Vl×V)) (d:Nat->Option (List Nat×V)),l=[.ptr lt 0,.slice lk 0 u.blocks.length,.slice ln 0 u.blocks.length,wo,.ptr lb 0,Y,A,wb,.I u.blocks.length,.I i,bv,.I B.ef.length,.I j]/\j+k' = B.ef.length/\Sn F h M h'/\Sn M h6 M h'/\PX u kp (BU u kp true i j) r d/\
    en M h' (eR eN ey (yc u kp i B.fg) A::eR eN ey (xe u kp i B.fg) Y::ev lb 50 (kr B bv wn bp)::eR vf fQ (((List.range i).filter kp).map λb=>(sO u kp b,OP bs b)) wo::eR eN ey ns (.slice ln 0 u.blocks.length)::eR eB jd kl (.slice lk 0 u.blocks.length)::eR yj hH r wv::eR vf fQ bs wb::fT ey d::fT ey fn::eR eZ ey s oT::ev lt ty [.I u.func,.I u.pc,wv,wb,ws,oT]::cs)) ?_ (k:=B.ef.length)
    ⟨0,r,d,rfl,by omega,s6,Sn.refl _ _,I,W⟩
   clear W s6 I;rintro k' _ _ _ _ _ _ _ _ _ _ _ _ _ h7 ⟨j,r,d,⟨⟩,ag,s7,aB,I,H7⟩;unfold ux;by_cases hj:j<B.ef.length
   ·refine gG ?_;have f:=gP hj;generalize B.ef[j]=v at*;have R:At u v i j:=⟨B,X,f⟩
    have aC:=g.mb v i j R;obtain⟨l1,o1,_,x1,x2⟩:=(bf.since aB).nat f .i64;obtain⟨x,aq⟩:∃x,u.ef[v]? =some x:=⟨_,gP aC⟩
    have bV:¬BU u kp true i j v:=by
     rintro(⟨b,k,n,_,L⟩|⟨k,n,L⟩)
     ·have:=(g.OM _ _ _ _ _ L R).1;omega
     ·have:=(g.OM _ _ _ _ _ L R).2;omega
    obtain⟨w,aQ,bW⟩:=I.same v x aq λh=>bV h.2;obtain⟨lv,ov,wl,y1,_,⟨rfl,w1⟩,y2⟩:=H7.WJ 6 rfl aQ .i64;have y1:gD 6 wv (.I v)=some (.ptr lv ov):=y1;refine ed x1 (ed x2 (ed (fX _ _) (ed (eJ _ _ _) (oF (H7.ld 11 rfl rfl) (ed y1 (oN (y2 0 _ rfl) (gj ?_)))))));by_cases ae:x.op=21
    ·refine gw (by show(x.op:Int)=21;omega) (ed (H7.len 1 rfl) ?_);have bX:=g.args v x aq;have ci:=g.Ko v i j x B R aq ae X;have K:=H7.add (p:=eR eN ey [] .ee) .nil λ_ h=>h
     refine Cn (λaR l h'=>∃(m:Nat) (vr:V),l=[.ptr lt 0,.slice lk 0 u.blocks.length,.slice ln 0 u.blocks.length,wo,.ptr lb 0,Y,A,.ptr lv ov,vr,wb,.I u.blocks.length,.I i,bv,.I B.ef.length,.I j,Y,.I ((xe u kp i B.fg).length:Nat),.I m]/\m+aR=(xe u kp i B.fg).length/\Sn M h7 M h'/\
      en M h' (eR eN ey (((xe u kp i B.fg).take m).map λj=>x.args.getD j 0) vr::eR eN ey (yc u kp i B.fg) A::eR eN ey (xe u kp i B.fg) Y::ev lb 50 (kr B bv wn bp)::eR vf fQ (((List.range i).filter kp).map λb=>(sO u kp b,OP bs b)) wo::eR eN ey ns (.slice ln 0 u.blocks.length)::eR eB jd kl (.slice lk 0 u.blocks.length)::eR yj hH r wv::eR vf fQ bs wb::fT ey d::fT ey fn::eR eZ ey s oT::ev lt ty [.I u.func,.I u.pc,wv,wb,ws,oT]::cs)) ?_ (k:=(xe u kp i B.fg).length)
      ⟨0,.ee,rfl,by omega,Sn.refl _ _,K⟩
     clear K H7 y2;rintro aR _ _ _ _ _ _ _ _ vr _ _ _ _ _ _ _ _ _ h8 ⟨m,_,⟨⟩,cj,aS,K⟩;unfold uq;obtain⟨bg,bh,wl,y3,_,⟨rfl,_⟩,y4⟩:=K.WJ 7 rfl aQ .i64;have y3:gD 6 wv (.I v)=some (.ptr bg bh):=y3;rw[y1]at y3;obtain⟨rfl,rfl⟩:lv=bg/\ov=bh:=by cases y3;exact⟨rfl,rfl⟩
     clear y3;by_cases hm:m<(xe u kp i B.fg).length
     ·refine gG ?_;have hq:=gP hm;have ak:=zd hq;have cn:=bU _ (zq hm);generalize (xe u kp i B.fg)[m]=q at*;obtain⟨l2,o2,z1,z2⟩:=K.KO 2 rfl hq .i64;have ha:=gP (show q<x.args.length by omega);have bY:x.args.getD q 0=x.args[q]:=by rw[BO,ha];rfl
      generalize x.args[q]=a at*;obtain⟨l3,o3,_,z3,z4⟩:=(K.rows 9 rfl bW).read.nat ha .i64;refine ed z1 (ed z2 (oN (y4 4 _ rfl) (ed z3 (ed z4 ?_))));rw[nR,fE];obtain⟨va,h9,e9,_,H9,s9⟩:=K.tU 0 rfl (jM:=8) (BN:=3) (y:=a) (w:=hO [a]) (ro:=false) rfl (by decide) (by decide) (by simp;omega);have ao:fe 3 1 8 vr (.slice h8.next 0 1) (h8.new (.cells 3 1 true false (hO [a])))=some (.val va h9):=e9;rw[ao,ei];simp only[iY]at H9;refine fN ⟨aR-1,by omega,m+1,va,rfl,by omega,aS.trans s9,?_⟩;rw[ak,Ji,Sp,SM,bY];exact H9
     refine iI ?_;obtain rfl:m=(xe u kp i B.fg).length:=by omega
     rw [Jh]at K;have K:en M h8 (eR eN ey (vG u kp i B.fg x.args) vr::_):=K;have bi:=K.one 0 rfl;have aE:=iR.1 aQ;obtain⟨lq,h9,e1,e2,_,H9,s9⟩:=K.stF 7 rfl (k:=v) (j:=4) (y:=({x with args:=vG u kp i B.fg x.args},vr)) (a:=vr) aE.1 (by decide) bi (λw' hw=>by
      rw[aE.2]at hw;obtain⟨rfl,_⟩:=hw;exact⟨rfl,bi⟩)
     have e1:gD 6 wv (.I v)=some (.ptr lq (v*6)):=e1;rw[y1]at e1;obtain⟨rfl,rfl⟩:lv=lq/\ov=v*6:=by cases e1;exact⟨rfl,rfl⟩
     have e2:gK 1 (.ptr lv (v*6+4)) vr h8=some (.val .undef h9):=e2;refine ed (fX _ _) (ed (eJ _ _ _) ?_);rw[e2,ei];simp only[iY,lj]at H9;have ap:=H9.Qa 9 rfl (up d v Option.none) id (λa p ha=>by
      by_cases e:a=v
      ·subst e;rw[ji]at ha;cases ha
      ·rwa [iZ _ _ e]at ha) (λ_ _ _ _ _ _ e=>e)
     simp only[iY,lj]at ap;have aT:=ap.VT 8 rfl (i:=v) (ji _ _ _);simp only[iY,lj]at aT;have bj:up (up d v Option.none) v (some (vG u kp i B.fg x.args,vr))=up d v (some (vG u kp i B.fg x.args,vr)):=funext λa=>by
      by_cases e:a=v
      ·subst e;rw[ji,ji]
      ·rw[iZ _ _ e,iZ _ _ e,iZ _ _ e]
     rw[bj]at aT;refine tx ?_;unfold ni;have c2:=I.put g R aq ae X vr;refine fN ⟨k'-1,by omega,j+1,_,_,rfl,by omega,(s7.trans aS).trans s9,(aB.trans aS).trans s9,?_,aT⟩;exact c2.more (λa ha=> .inl ((al true j v f a).1 ha)) λa ha=>(al true j v f a).2 ha
    ·refine gi (by show ¬(x.op:Int)=21;omega) (tx ?_);unfold ni;refine fN ⟨k'-1,by omega,j+1,r,d,rfl,by omega,s7,aB,I.more (λa ha=>?_) (λa ha=>(al true j v f a).2 (.inl ha)),H7⟩;rcases(al true j v f a).1 ha with n|rfl
     ·exact .inl n
     ·exact .inr ⟨x,aq,ae⟩
   refine iI ?_;obtain rfl:j=B.ef.length:=by omega
   clear ag k' hj;have bZ:=bf.since aB;obtain⟨K,s8,rp⟩:=H7.lO 0 rfl;simp only[iY]at K;have b4:=bZ.since s8;generalize (λl=>M l\/Loc A l)=F8 at*;have K:=K.tail.tail;obtain⟨h9,e9,_,H9,s9⟩:=K.st 0 (o:=4) (u:=A) rfl (by simp[kr]) rp.one;refine ed (eJ _ _ _) ?_;have ao:gK 1 (.ptr lb (0+4)) A h7=some (.val .undef h9):=by rw[yC];exact e9
   rw[ao,ei];simp only[iY]at H9;have bm:sO u kp i = {B with fg:=yc u kp i B.fg}:=by unfold sO;rw[aL]
   have aj:(kr B bv wn bp).set 4 A=kr (sO u kp i) bv wn A:=by rw[bm];rfl
   rw [aj]at H9;have bo:=b4.since s9;have br:=rp.since s9;refine ed (H9.wS 0 rfl rfl) ?_;have H9:=H9.tail;rw[pP (sz:=6) (w:=kr (sO u kp i) bv wn A) rfl rfl (by simp only[kr,eQ,bo.one,aK,br.one];rfl),fE];have co:((List.range i).filter kp).length<=i:=by
    have:=wBg kp (List.range i)
    rwa [Xe]at this
   obtain⟨bt,hA,eA,_,HA,sA⟩:=H9.tU 0 rfl (jM:=96) (BN:=50) (y:=(sO u kp i,wn)) (w:=kr (sO u kp i) bv wn A) (ro:=false) (by rw[bm];exact⟨bv,A,rfl,bo,br,aK⟩) (by decide) (by decide) (by simp;omega);have b5:fe 50 6 96 wo (.slice h9.next 0 1) (h9.new (.cells 50 6 true false (kr (sO u kp i) bv wn A)))=some (.val bt hA):=eA;rw[b5,ei];simp only[iY]at HA;refine tD ?_;unfold nq;refine fN ⟨k-1,by omega,F8,i+1,r,d,s,bt,rfl,by omega,((s7.trans s8).trans s9).trans sA,?_,?_,?_⟩
   ·exact I.more (λv n=> .inl ((am true D v).2 n)) λv n=>(am true D v).1 n
   ·refine aa.congr λv=>?_;rw[ay];exact⟨.inl,λh=>h.resolve_right λh=>by rw[D]at h;cases h.1⟩
   ·rw[vN,D,if_pos rfl,Ji,Sp,SM,aJ];exact HA
  ·refine gi D ?_;have D:kp i=false:=wBw.2 D;refine oF (H5.ld 0 rfl rfl) (ed iv.len ?_);have H5:=H5.tail
   refine B3 (λk' l h'=>∃(j:Nat) (s:List Int),l=[.ptr lt 0,.slice lk 0 u.blocks.length,.slice ln 0 u.blocks.length,wo,wb,.I u.blocks.length,.I i,bv,.I B.ef.length,.I j]/\j+k' = B.ef.length/\Sn F h M h'/\Sn M h5 M h'/\AsD (BU u kp false i j) az s/\
    en M h' (eR vf fQ (((List.range i).filter kp).map λb=>(sO u kp b,OP bs b)) wo::eR eN ey ns (.slice ln 0 u.blocks.length)::eR eB jd kl (.slice lk 0 u.blocks.length)::eR yj hH r wv::eR vf fQ bs wb::fT ey d::fT ey fn::eR eZ ey s oT::ev lt ty [.I u.func,.I u.pc,wv,wb,ws,oT]::cs)) ?_ (k:=B.ef.length)
    ⟨0,s,rfl,by omega,s4.trans s5,Sn.refl _ _,aa,H5⟩
   clear H5 H4;rintro k' _ _ _ wo _ _ _ _ _ _ h6 ⟨j,s,⟨⟩,ag,s6,ab,aa,W⟩;unfold uQ;by_cases hj:j<B.ef.length
   ·refine gG ?_;have f:=gP hj;generalize B.ef[j]=v at*;have aC:=g.mb v i j ⟨B,X,f⟩;obtain⟨l1,o1,_,x1,x2⟩:=(iv.since ab).nat f .i64;refine ed x1 (ed x2 (oN (W.ld 8 rfl rfl) ?_));obtain⟨l2,o2,h7,e1,e2,_,H7,s7⟩:=W.Ig 7 rfl (k:=v) (y:=(-1:Int)) (u:=V.I (-1)) (by rw[aa.len];omega) rfl rfl rfl;refine ed e1 ?_;rw[e2,ei];simp only[iY,lj]at H7;exact fN ⟨k'-1,by omega,j+1,s.set v (-1),rfl,by omega,s6.trans s7,ab.trans s7,(aa.put v).congr λa=>(al false j v f a).symm,H7⟩
   refine iI (tD ?_);unfold nq;obtain rfl:j=B.ef.length:=by omega
   refine fN ⟨k-1,by omega,M,i+1,r,d,s,_,rfl,by omega,s6,?_,aa.congr (am false D),?_⟩
   ·refine I.more (λv n=> .inl ?_) λv n=>(ay true v).2 (.inl n);rcases(ay true v).1 n with L|⟨L,_⟩
    ·exact L
    ·rw[D]at L;cases L
   ·rw[vN,D];simpa using W
 refine iI ?_;obtain rfl:i=u.blocks.length:=by omega
 clear Z k hi;have a6:(mm u kp).length<=u.blocks.length:=by
  have:=wBg kp (List.range u.blocks.length)
  rwa [Xe]at this
 rw[show(List.range u.blocks.length).filter kp=mm u kp from rfl]at H4;refine ed (H4.len 0 rfl) ?_;rw[CD];have bu:(mm u kp).Nodup:=List.nodup_range.filter _;have bw:∀b∈mm u kp,b<u.blocks.length:=λb S=>Sq.1 (MS.1 S).1
 refine Cf (λk l h'=>∃(i:Nat) (J:Nat->Option (List Nat×V)),l=[.ptr lt 0,.slice ln 0 u.blocks.length,wo,.I ((mm u kp).length:Nat),.I i]/\i+k=(mm u kp).length/\Sn F h M h'/\
  (∀b B w,bs[b]? =some (B,w)->J b=some (if b∈(mm u kp).take i then B.next.map (wK kp) else B.next,w))/\
  en M h' (eR vf fQ ((mm u kp).map λb=>(sO u kp b,OP bs b)) wo::eR eN ey ns (.slice ln 0 u.blocks.length)::eR eB jd kl (.slice lk 0 u.blocks.length)::eR yj hH r wv::eR vf fQ bs wb::fT ey d::fT ey J::eR eZ ey s oT::ev lt ty [.I u.func,.I u.pc,wv,wb,ws,oT]::cs)) ?_ (k:=(mm u kp).length)
  ⟨0,fn,rfl,by omega,s4,λb B w b6=>by rw[S.row b B w b6];simp,H4⟩
 clear H4 s4;rintro k _ _ _ _ _ h5 ⟨i,J,⟨⟩,Z,s5,ah,H5⟩;unfold ud;by_cases hi:i<(mm u kp).length
 ·refine gG ?_;have f:=gP hi;have ak:=zd f;have bH:=bw _ (zq hi);have b7:(mm u kp)[i] ∉ (mm u kp).take i:=λhm=>by
   obtain⟨j,hj⟩:=mK.1 hm;have am:=(iR.1 hj).1;rw[GX]at am;rw[Y0 (by omega)]at hj;have:=xA bu hj f;omega
  generalize (mm u kp)[i]=b at*;obtain⟨⟨B,wn⟩,N⟩:∃y,bs[b]? =some y:=⟨_,gP (by omega)⟩
  have X:u.blocks[b]? =some B:=by rw[<-S.fst,zG,N];rfl
  have aJ:OP bs b=wn:=by unfold OP;rw[N]
  have bx:((mm u kp).map λb=>(sO u kp b,OP bs b))[i]? =some (sO u kp b,wn):=by rw[zG,f,<-aJ];rfl
  have cp:=g.walk.two b B X;have b8:∀t∈B.next,t<u.blocks.length:=λt ht=>g.walk.nx b t (by unfold next;rw[X];exact ht);have ac:=ah b B wn N;rw[if_neg b7]at ac;obtain⟨lo,oo,w1,z1,_,⟨pv,pp,rfl,_,_,_⟩,z2⟩:=H5.WJ 0 rfl bx .i64;have z1:gD 6 wo (.I i)=some (.ptr lo oo):=z1;have z3:=z2 3 wn rfl;refine ed z1 (oF z3 (ed (H5.rows 6 rfl ac).len ?_))
  refine BW (λk' l h'=>∃(j:Nat) (J:Nat->Option (List Nat×V)),l=[.ptr lt 0,.slice ln 0 u.blocks.length,wo,.I i,.I ((mm u kp).length:Nat),.I i,wn,.I B.next.length,.I j]/\j+k' = B.next.length/\Sn F h M h'/\
   (∀c B w,c≠b->bs[c]? =some (B,w)->J c=some (if c∈(mm u kp).take i then B.next.map (wK kp) else B.next,w))/\J b=some ((B.next.take j).map (wK kp)++B.next.drop j,wn)/\
   en M h' (eR vf fQ ((mm u kp).map λb=>(sO u kp b,OP bs b)) wo::eR eN ey ns (.slice ln 0 u.blocks.length)::eR eB jd kl (.slice lk 0 u.blocks.length)::eR yj hH r wv::eR vf fQ bs wb::fT ey d::fT ey J::eR eZ ey s oT::ev lt ty [.I u.func,.I u.pc,wv,wb,ws,oT]::cs)) ?_ (k:=B.next.length)
   ⟨0,J,rfl,by omega,s5,λc B w _ hc=>ah c B w hc,ac,H5⟩
  clear H5 s5 z2 z3 ac ah;rintro k' _ _ _ _ _ _ _ _ _ h6 ⟨j,J,⟨⟩,ag,s6,ah,ac,W⟩;unfold ug;obtain⟨b9,ca,w1,z4,_,⟨pv,pp,rfl,_,_,_⟩,z2⟩:=W.WJ 0 rfl bx .i64;have z4:gD 6 wo (.I i)=some (.ptr b9 ca):=z4;have z3:=z2 3 wn rfl;by_cases hj:j<B.next.length
  ·refine gG ?_;have hn:=gP hj;have aF:((B.next.take j).map (wK kp)++B.next.drop j)[j]? =some B.next[j]:=by
    rw[Rf (by simp;omega)];simp[GX,wBx (wCO hj)]
   have bz:((B.next.take j).map (wK kp)++B.next.drop j).set j (wK kp B.next[j])=(B.next.take (j+1)).map (wK kp)++B.next.drop (j+1):=by
    have hL:((B.next.take j).map (wK kp)).length=j:=by rw[CD,GX];omega
    rw[zd hn,Ji,Ek,XU hj,List.set_append_right _ _ (by omega),hL,Nat.sub_self];rfl
   have aU:j<((B.next.take j).map (wK kp)++B.next.drop j).length:=(iR.1 aF).1;have cb:=b8 _ (zq hj);generalize B.next[j]=t at*;obtain⟨l1,o1,_,x1,x2⟩:=(W.rows 6 rfl ac).read.nat aF .i64;obtain⟨l2,o2,y1,y2⟩:=W.KO 1 rfl (ai t cb) .i64;obtain⟨l3,o3,h7,e1,e2,n7,H7,s7⟩:=W.V6 6 rfl ac aU (wK kp t);refine ed x1 (ed x2 (ed z4 (oF z3 (ed y1 (ed y2 (ed e1 ?_))))));rw[e2,ei];simp only[iY,lj]at H7;refine⟨n7,fN ⟨k'-1,by omega,j+1,_,rfl,by omega,s6.trans s7,λc C w bA hc=>?_,?_,H7⟩⟩
   ·rw[iZ _ _ bA];exact ah c C w bA hc
   ·rw[ji,bz]
  refine iI ?_;obtain rfl:j=B.next.length:=by omega
  rw[Jh,List.drop_length,Eo]at ac;refine fN ⟨k-1,by omega,i+1,J,rfl,by omega,s6,λc C w hc=>?_,W⟩;rw[ak];by_cases e:c=b
  ·subst e;rw[N]at hc;cases hc;rw[ac,if_pos (by simp)]
  ·rw[ah c C w e hc];simp[e]
 refine iI ?_;obtain rfl:i=(mm u kp).length:=by omega
 rw [Jh]at ah;clear Z k hi;obtain⟨h6,e6,_,W,s6⟩:=H5.st 8 (o:=3) (u:=wo) rfl (by simp) (H5.one 0 rfl);refine ed (fX _ _) (ed (eJ _ _ _) (ed (eJ _ _ _) ?_));have cd:gK 1 (.ptr lt (0+0+3)) wo h5=some (.val .undef h6):=e6;rw[cd,ei];simp only[iY,lj]at W;have ce:∀b,b∈mm u kp->∃B,u.blocks[b]? =some B/\bs[b]? =some (B,OP bs b)/\u.blocks.getD b Pg=B:=λb cf=>by
  obtain⟨⟨B,w⟩,N⟩:∃y,bs[b]? =some y:=⟨_,gP (by have:=bw b cf;omega)⟩
  have X:u.blocks[b]? =some B:=by rw[<-S.fst,zG,N];rfl
  exact⟨B,X,by unfold OP;rw[N],by rw[BO,X];rfl⟩
 have H7:=W.reR (E':=vf) (ys:=(mm u kp).map λb=>(Hu u kp b,OP bs b)) 0 rfl rfl (by simp) λk x y ws f hy hr=>by
  rw[zG]at f hy
  cases hkk:(mm u kp)[k]? with
  |none=>rw[hkk]at f;cases f
  | some b=>
    rw[hkk]at f hy;cases f;cases hy;exact hr
 simp only[iY]at H7;obtain⟨ar,au⟩:∃ar:Nat->Option (List Nat×V),∀k,ar k=match (mm u kp)[k]? with|some b=>J b|none=>Option.none:=⟨_,λ_=>rfl⟩
 have bC:∀{k b:Nat},(mm u kp)[k]? =some b->ar k=J b:=λZ=>by rw[au,Z]
 have K:=H7.Qa 6 rfl ar (λk=>(mm u kp).getD k 0) (λk p Z=>by
  cases hkk:(mm u kp)[k]? with
  |none=>rw[au,hkk]at Z;cases Z
  |some b=>rw[bC hkk]at Z;rw[BO,hkk];exact Z) (λk k' p q Z ag e=>by
  cases hkk:(mm u kp)[k]? with
  |none=>rw[au,hkk]at Z;cases Z
  | some b=>
    cases hkk':(mm u kp)[k']? with
    |none=>rw[au,hkk']at ag;cases ag
    | some b'=>
      simp only[BO,hkk,hkk',Option.getD_some]at e;subst e;exact xA bu hkk hkk')
 simp only[iY,lj]at K;have hU:∀c v,BU u kp c u.blocks.length 0 v↔∃b k,At u v b k/\kp b=c:=λc v=>by
  constructor
  ·rintro(⟨b,k,_,h3,h4⟩|⟨k,h3,_⟩)
   ·exact⟨b,k,h4,h3⟩
   ·omega
  ·rintro⟨b,k,h4,h3⟩;exact .inl ⟨b,k,(let⟨_,h,_⟩:=h4;(iR.1 h).1),h3,h4⟩
 refine H M h6 seen post kp ⟨u.func,u.pc,r.map Prod.fst,(mm u kp).map (Hu u kp),u.eh⟩ r ((mm u kp).map λb=>(Hu u kp b,OP bs b)) d ar s wo (s5.trans s6) G a8 ⟨rfl,rfl,rfl,rfl,by rw[CD,I.len],λv b k x B R f ae U X=>?_,λv x f hn=>?_⟩ ⟨rfl,λv x w f=>?_,λv hv=>I.out v (by rw[I.len]at hv;exact hv)⟩ ⟨by rw[List.map_map];rfl,λk B w f=>?_,λk Z=>?_⟩ ⟨aa.len,λv b k R U hv=>aa.gone v ((hU false v).2 ⟨b,k,R,U⟩) hv,λv hn=>aa.same v λhD=>hn ((hU false v).1 hD)⟩ K.UB
 ·obtain⟨w,n,_⟩:=I.Ko v b k x B ((hU true v).2 ⟨b,k,R,U⟩) R f ae X;rw[zG,n];rfl
 ·obtain⟨w,n,_⟩:=I.same v x f λ⟨n,L⟩=>hn ⟨n,(hU true v).1 L⟩;rw[zG,n];rfl
 ·have aC:v<u.ef.length:=by rw[<-I.len];exact(iR.1 f).1
  have hy:=gP aC;generalize u.ef[v]=y at*;by_cases hD:y.op=21/\BU u kp true u.blocks.length 0 v
  ·obtain⟨b,k,R,U⟩:=(hU true v).1 hD.2;obtain⟨B,X,cq⟩:=id R;obtain⟨w',n,L⟩:=I.Ko v b k y B hD.2 R hy hD.1 X;rw[f]at n;cases n;exact L
  ·obtain⟨w',n,L⟩:=I.same v y hy hD;rw[f]at n;cases n;exact L
 ·rw[zG]at f
  cases hkk:(mm u kp)[k]? with
  |none=>rw[hkk]at f;cases f
  | some b=>
    rw[hkk]at f;cases f;obtain⟨B,X,N,aL⟩:=ce b (A7 hkk);rw[bC hkk,ah b B _ N,if_pos (A7 hkk)];unfold Hu;rw[aL]
 ·rw[CD]at Z;rw[au,KT Z]
end
