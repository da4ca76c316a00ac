/- Parts. -/
import Derived.Test.YtkpicojjjifmgabGreatDoorM28
set_option maxHeartbeats 4000000
namespace Go.Proofs.YtkpicojjjifmgabGreatDoor.Hx
open Un Dm
def qp.fix{α:Type}(E:qp α)(F:Nat->Prop)(h:Hp):qp α where
 sz:=E.sz
 rel _ _ x cs:=E.rel F h x cs
 len h:=E.len h
 one h:=E.one h
 fj _ h:=h
 mono _ h:=h
section
variable{F F':Nat->Prop}{h h':Hp}{cs ds:List Pc}{Q:fD}{u:U}{vv vb vs:V}
theorem eo.YC{α:Type}{E:qp α}{ty:Nat}{xs:List α}{v:V}(H:eo F h cs)(i:Nat)(hi:cs[i]? =some (fg E ty xs v)){k:Nat}{x:α}(c:xs[k]? =some x)(kd:IntKind) :
  ∃l o w,gB E.sz v (.int kd k)=some (.ptr l o)/\fW E.sz (.ptr l o) h=some (.agg w)/\E.rel F h x w/\∀j u,w[j]? =some u->fe (.ptr l (o+j)) h=some u:=by
 obtain⟨d,rfl⟩:=ki.1 c;have a:=(ki.1 hi).1;exact(H.ZW (E':=E.fix F h) i hi rfl rfl λk x y cs hx b e=>by rw[hx]at b;cases b;exact e).ix i (NZ a) d kd
theorem ld5{l ty:Nat}{a b c d e f:V}(H:eo F h cs)(i:Nat)(hi:cs[i]? =some (eQ l ty [a,b,c,d,e,f])):fW 5 (.ptr l 0) h=some (.agg [a,b,c,d,e]):=by
 rw[AV (H.get i hi)];rfl
theorem eo.YF(H:eo F h cs)(i j:Nat) {ty d:Nat}{bs:List (Bk×V)}{fn:Nat->Option (List Nat×V)}{wb:V}{l:List Bk}(hi:cs[i]? =some (fg wU ty bs wb))(e:cs[j]? =some (fX d fn))(hc:Xu l bs fn):im eK (λl=>F l\/Oh cs l) h l wb:=by
 refine(H.row i hi).read.ZW rfl (λm c=>c.imp id λc=>⟨i,_,hi,c⟩) (by rw[<-hc.fst,Ik]) λk x y ws hx f g=>?_;rw[<-hc.fst,Dn,hx]at f;cases f;have n:=(H.rows j e (hc.row k x.1 x.2 hx)).Z8 (F':=λl=>F l\/Oh cs l) (by simp_all) λm c=> .inr ⟨j,_,e,k,_,_,hc.row k x.1 x.2 hx,c⟩;obtain⟨a,b,o,p,q,_⟩:=g;exact⟨a,x.2,b,o,p.mono λm c=>c.imp id λc=>⟨i,_,hi,c⟩,n,q.mono λm c=>c.imp id λc=>⟨i,_,hi,c⟩⟩
end
structure MK (u:U):Prop where
 walk:zcn u
 nv:u.ej.length<=3000
 FQ:∀(v:Nat) (b:Nat) (k:Nat) (a:Nat) (k':Nat),At u v b k->At u v a k'->b=a/\k=k'
 ko:∀(v:Nat) (b:Nat) (k:Nat),At u v b k->v<u.ej.length
 pre:∀(b:Nat) (B:Bk),u.blocks[b]? =some B->B.fi.length<=700/\∀p∈B.fi,p<u.blocks.length
 KN:∀(v b k:Nat) (x:Vl) (B:Bk),At u v b k->u.ej[v]? =some x->x.op=21->u.blocks[b]? =some B->x.args.length=B.fi.length
 args:∀(v:Nat) (x:Vl),u.ej[v]? =some x->x.args.length<=700
structure Sp (u:U) (kp:Nat->Bool) (D:Nat->Prop) (xs:List (Vl×V)) (fa:Nat->Option (List Nat×V)):Prop where
 len:xs.length=u.ej.length
 out:∀i,u.ej.length<=i->fa i=none
 KN:∀(v b k:Nat) (x:Vl) (B:Bk),D v->At u v b k->u.ej[v]? =some x->x.op=21->u.blocks[b]? =some B->∃w,xs[v]? =some ({x with args:=xF u kp b B.fi x.args},w)/\fa v=some (xF u kp b B.fi x.args,w)
 same:∀(v:Nat) (x:Vl),u.ej[v]? =some x->¬(x.op=21/\D v)->∃w,xs[v]? =some (x,w)/\fa v=some (x.args,w)
structure AsD (D:Nat->Prop) (az a:List Int):Prop where
 len:a.length=az.length
 gone:∀(v:Nat),D v->v<az.length->a[v]? =some (-1)
 same:∀(v:Nat),¬D v->a[v]? =az[v]?
theorem Sp.more{D D':Nat->Prop}{u:U}{kp:Nat->Bool}{xs:List (Vl×V)}{fa:Nat->Option (List Nat×V)}(c:Sp u kp D xs fa)(h:∀v,D' v->D v\/∃x,u.ej[v]? =some x/\x.op≠21)(d:∀v,D v->D' v):Sp u kp D' xs fa where
 len:=c.len
 out:=c.out
 KN v b k x B hD V0 hx hop hB:=by
  rcases h v hD with a|⟨y,a,e⟩
  ·exact c.KN v b k x B a V0 hx hop hB
  simp_all
 same v x hx hn:=c.same v x hx (by grind)
theorem Sp.put{D:Nat->Prop}{u:U}{kp:Nat->Bool}{xs:List (Vl×V)}{fa:Nat->Option (List Nat×V)}(g:MK u)(c:Sp u kp D xs fa){v b k:Nat}{x:Vl}{B:Bk}(d:At u v b k)(hx:u.ej[v]? =some x)(f:x.op=21)(h:u.blocks[b]? =some B)(w:V) :
  Sp u kp (λa=>D a\/a=v) (xs.set v ({x with args:=xF u kp b B.fi x.args},w)) (up fa v (some (xF u kp b B.fi x.args,w))) where
 len:=by rw[TH];exact c.len
 out i hi:=by
  have:=(ki.1 hx).1;rw[jk _ _ (by omega)];exact c.out i hi
 KN a b' k' y B' hD hat' hy hop' hB':=by
  by_cases e:a=v
  ·subst e;obtain⟨rfl,rfl⟩:=g.FQ _ _ _ _ _ d hat';rw[hx]at hy;cases hy;rw[h]at hB';cases hB';exact⟨w,NZ (by rw[c.len];grind),jn _ _ _⟩
  ·rw[KP (by omega),jk _ _ e];exact c.KN a b' k' y B' (hD.resolve_right e) hat' hy hop' hB'
 same a y hy hn:=by
  by_cases e:a=v
  ·simp_all
  ·rw[KP (by omega),jk _ _ e];exact c.same a y hy (by simp_all)
theorem AsD.congr{D D':Nat->Prop} {az a:List Int}(c:AsD D az a)(h:∀v,D v↔D' v):AsD D' az a:=
 ⟨c.len,λv hv=>c.gone v (by simp_all),λv hv=>c.same v (by simp_all)⟩
theorem AsD.put{D:Nat->Prop} {az b:List Int}(c:AsD D az b)(v:Nat):AsD (λa=>D a\/a=v) az (b.set v (-1)) where
 len:=by rw[TH];exact c.len
 gone a ha hl:=by
  by_cases e:a=v
  ·subst e;exact NZ (by rw[c.len];exact hl)
  ·rw[KP (by omega)];exact c.gone a (ha.resolve_right e) hl
 same a ha:=by
  rw[KP (by omega)];exact c.same a (by simp_all)
def Dx(u:U)(kp:Nat->Bool)(c:Bool)(i j:Nat)(v:Nat):Prop:=(∃b k,b<i/\kp b=c/\At u v b k)\/∃k,k<j/\At u v i k
section
variable{F F':Nat->Prop}{h h':Hp}{cs ds:List Pc}{Q:fD}{u:U}
theorem eo.zcc{ty:Nat}{xs:List Nat}{v q:V}(H:eo F h cs)(i:Nat)(hi:cs[i]? =some (fg eN ty xs v)){k x:Nat}(hx:xs[k]? =some x){kd:IntKind}(hq:gB 1 v (.int kd (k:Nat))=some q):fe q h=some (.I x):=by
 obtain⟨l,o,a,b⟩:=H.Ng i hi hx kd
 simp_all
theorem eo.zdI(H:eo F h cs)(i:Nat){l n:Nat}(hi:cs[i]? =some (eQ l eR [.I n])):eo F h (cs.set i (fg eN eR [n] (.slice l 0 1))):=by
 have a:=H.ok i _ hi;exact H.swap hi (.inr ⟨l,_,rfl,a.2.1,a.2.2,a.1,⟨[.I n],[],rfl,rfl,trivial⟩,rfl⟩) λm e=>e.symm
theorem eo.Zt{ι:Type} [DecidableEq ι] {ty:Nat}{f:ι->Option (List Nat×V)}{xs:List Nat}{v:V}(H:eo F h (fg eN ty xs v::cs))(n:Nat)(p:cs[n]? =some (fX ty f)){i:ι}(hi:f i=Option.none):eo F h (cs.set n (fX ty (up f i (some (xs,v))))):=by
 have h0:=H.ok 0 _ rfl;have q:=H.ok (n+1) _ p;have s:∀l,Loc v l->¬(fX ty f).mn l:=λl m=>H.Ew 0 (n+1) _ _ rfl p (by omega) l m;have u:∀l,(fX ty (up f i (some (xs,v)))).mn l->Loc v l\/(fX ty f).mn l:=by
  rintro l ⟨k,ys,w,o,y⟩;by_cases e:k=i
  ·simp_all
  ·rw[jk _ _ e]at o;exact .inr ⟨k,ys,w,o,y⟩
 have z:∀j c,j≠n->cs[j]? =some c->∀l,(fX ty (up f i (some (xs,v)))).mn l->¬c.mn l:=λj c d hc l m=>(u l m).elim (H.Ew 0 (j+1) _ c rfl hc (by omega) l) (H.Ew (n+1) (j+1) _ c p hc (by omega) l);refine⟨H.fl,λj c hc=>?_,λj k a b A hb B l m g=>?_⟩
 ·rcases EA hc with⟨_,rfl⟩|⟨_,r⟩
  ·refine ⟨λj ys w d=>?_,λj k ys w t x d o p l m g=>?_⟩
   ·by_cases e:j=i
    ·subst e;rw[jn]at d;cases d;exact h0
    ·rw[jk _ _ e]at d;exact q.1 j ys w d
   ·by_cases e:j=i
    ·subst e;rw[jn]at d;cases d;rw[jk _ _ (by grind)]at o;exact s l m ⟨k,t,x,o,g⟩
    ·rw[jk _ _ e]at d;by_cases e':k=i
     ·subst e';rw[jn]at o;cases o;exact s l g ⟨j,ys,w,d,m⟩
     ·rw[jk _ _ e']at o;exact q.2 j k ys w t x d o p l m g
  ·exact H.ok (j+1) c r
 ·rcases EA A with⟨C,rfl⟩|⟨C,q⟩
  ·grind
  ·rcases EA hb with⟨D,rfl⟩|⟨_,r⟩
   ·grind
   ·exact H.Ew (j+1) (k+1) a b q r (by omega) l m g
theorem eo.Wz{a b c d e f x y z:Pc}(H:eo F h (a::b::c::d::e::f::x::y::z::cs)):eo F h (d::a::f::x::y::z::cs):=
 H.re (λi=>match i with|0=>3|1=>0|n+2=>n+5) (by grind) (by grind)
theorem Fz{α:Type}{l:List α}{i:Nat}{x:α}(h:l[i]? =some x):l.take (i+1)=l.take i++[x]:=by
 obtain⟨a,rfl⟩:=ki.1 h
 simp_all
theorem xd(p:Nat->Bool)(i:Nat):(List.range (i+1)).filter p=(List.range i).filter p++if p i=true then[i] else[]:=by
 rw[Yl,wB0,wBn];rfl
end
def Ra(bs:List (Bk×V))(b:Nat):V:=match bs[b]? with
 |some x=>x.2
 |none=> .undef
def uc(u:U)(kp:Nat->Bool)(b:Nat):Bk:={u.blocks.getD b Qj with fi:=zA u kp b (u.blocks.getD b Qj).fi}
section
variable{F F':Nat->Prop}{h h':Hp}{cs ds:List Pc}{Q:fD}{u:U}{wv wb ws mQ:V}{lt ty:Nat}{az:List Int}{xs:List (Vl×V)}{bs:List (Bk×V)}{fa fn:Nat->Option (List Nat×V)}
theorem Wi(g:MK u)(hc:X7 u.ej xs fa)(hb:Xu u.blocks bs fn)(ci:az.length=u.ej.length)(bx:ws.one=true)
  (H0:eo F h (fg zh hH xs wv::fg wU fS bs wb::fX eR fa::fX eR fn::fg eZ eR az mQ::eQ lt ty [.I u.func,.I u.pc,wv,wb,ws,mQ]::cs))
  (H:∀F' h' seen post kp u' f aR d I r aS,Sn F h F' h'->JN u.blocks.length (next u) seen post []->kp=(λb=>post.reverse.contains b)->Cut u kp u'->X7 u'.ej f d->Xu u'.blocks aR I->Pq u kp az r->
   eo F' h' (fg zh hH f wv::fg wU fS aR aS::fX eR d::fX eR I::fg eZ eR r mQ::eQ lt ty [.I u.func,.I u.pc,wv,aS,ws,mQ]::cs)->Q (.tuple []) h') :
  cP CS oS [.ptr lt 0] h Q:=by
 refine Hh rfl rfl ?_;unfold zs;have nb:=g.walk.nb;have nv:=g.nv;have aT:bs.length=u.blocks.length:=by rw[<-hb.fst,Ik]
 have bz:xs.length=u.ej.length:=by rw[<-hc.fst,Ik]
 have fz:∀{h:Hp} {cs:List Pc},fJ 0 (.ptr lt 0)=some (.ptr lt 0):=rfl;refine eh (fZ _ _) (eh (fM _ _ _) (oF (H0.ld 5 rfl rfl) (eh (H0.len 1 rfl) ?_)));rw[aT,ku (z:=V.bool false) rfl (by decide) (by omega),fE];obtain⟨H1,s1⟩:=H0.make (E:=eB) (ty:=jZ) (y:=false) (u:=V.bool false) u.blocks.length rfl rfl;generalize h.new (.cells jZ 1 true false (List.replicate u.blocks.length (V.bool false)))=n at*;generalize h.next=Z at*;refine eh (fZ _ _) (eh (fM _ _ _) (eh (ld5 H1 6 rfl) ?_));have ay:gw (uC u wv wb ws)=true:=by simp only[uC,eJ,H1.one 1 rfl,H1.one 2 rfl,bx];rfl
 refine PN g.walk H1.zfD ay (H1.YF 2 4 rfl rfl hb) λO vo seen post aC aU G=>?_;have H2:=H1.zdT aC aU;have bA:=s1.trans aC.back;clear aC aU ay fz s1 H1;have ae:∀b∈post.reverse,b<u.blocks.length:=λb hb=>G.pre b (wBY.1 hb);have bC:post.reverse.length<=u.blocks.length:=by
  have n:=G.nodup;rw[wB2,JL]at n;rw[List.length_reverse];exact jM _ _ n G.pre
 generalize aV:post.reverse=M at H2 ae bC⊢;refine eh (H2.len 0 rfl) ?_
 refine DO (λk l h'=>∃(i:Nat) (kl:List Bool),l=[.ptr lt 0,.slice Z 0 u.blocks.length,vo,.I M.length,.I i]/\i+k=M.length/\kl.length=u.blocks.length/\(∀b,b<u.blocks.length->kl[b]? =some ((M.take i).contains b))/\Sn F h F h'/\
  eo F h' (fg eN eR M vo::fg eB jZ kl (.slice Z 0 u.blocks.length)::fg zh hH xs wv::fg wU fS bs wb::fX eR fa::fX eR fn::fg eZ eR az mQ::eQ lt ty [.I u.func,.I u.pc,wv,wb,ws,mQ]::cs)) ?_ (k:=M.length)
  (by grind)
 rintro k _ _ _ _ _ h3 ⟨i,kl,⟨⟩,hk,aW,S,s3,H3⟩;unfold wu;by_cases hi:i<M.length
 ·refine gK ?_;have hx:=iy hi;have aD:M.take (i+1)=M.take i++[M[i]]:=MU hi;generalize M[i]=b at*;have bD:=ae b (DG hx);obtain⟨l1,o1,x1,x2⟩:=H3.Ng 0 rfl hx .i64;obtain⟨l2,o2,h4,e1,e2,_,H4,s4⟩:=H3.Kh 1 rfl (k:=b) (y:=true) (u:=V.bool true) (by omega) rfl rfl rfl;refine eh x1 (eh x2 (eh e1 ?_));rw[e2,en];simp only[ji,lO]at H4;refine fL ⟨k-1,by omega,i+1,kl.set b true,rfl,by omega,by simp[aW],λc aX=>?_,s3.trans s4,H4⟩
  grind
 refine iQ ?_;obtain rfl:i=M.length:=by omega
 rw[Ki]at S;clear hk k H2;have H3:=H3.tail;obtain⟨kp,aY⟩:∃kp:Nat->Bool,(λb=>M.contains b)=kp:=⟨_,rfl⟩
 have S:∀b,b<u.blocks.length->kl[b]? =some (kp b):=λb hb=>by rw[S b hb,<-aY]
 have aZ:kp=λb=>post.reverse.contains b:=by rw[aV,aY]
 have a4:fI (.slice Z 0 u.blocks.length)=some (.I u.blocks.length):=rfl;refine eh a4 ?_;rw[ku (z:=V.I 0) rfl (by decide) (by omega),fE];obtain⟨H4,s4⟩:=H3.make (E:=eN) (ty:=eR) (y:=0) (u:=V.I 0) u.blocks.length rfl rfl;generalize h3.new (.cells eR 1 true false (List.replicate u.blocks.length (V.I 0)))=h4 at*;generalize h3.next=ln at*;refine eh a4 ?_;have a5:=s3.trans s4;clear bA s3 s4 H3
 refine Eo (λk l h'=>∃(i:Nat) (ns:List Nat),l=[.ptr lt 0,.slice Z 0 u.blocks.length,.slice ln 0 u.blocks.length,.I (((List.range i).filter kp).length:Nat),.slice Z 0 u.blocks.length,.I u.blocks.length,.I i]/\i+k=u.blocks.length/\ns.length=u.blocks.length/\(∀b,b<i->ns[b]? =some (yr kp b))/\(∀b,i<=b->b<u.blocks.length->ns[b]? =some 0)/\Sn F h F h'/\
  eo F h' (fg eN eR ns (.slice ln 0 u.blocks.length)::fg eB jZ kl (.slice Z 0 u.blocks.length)::fg zh hH xs wv::fg wU fS bs wb::fX eR fa::fX eR fn::fg eZ eR az mQ::eQ lt ty [.I u.func,.I u.pc,wv,wb,ws,mQ]::cs)) ?_ (k:=u.blocks.length)
  ⟨0,_,rfl,by omega,WI,λb hb=>by omega,λb _ hb=>by rw[wBx,if_pos hb],a5,H4⟩
 clear a5 H4 H0;rintro k _ _ _ _ _ _ _ h3 ⟨i,ns,⟨⟩,hk,ag,an,ao,s3,H3⟩;unfold vE;have a6:((List.range i).filter kp).length<=i:=by
  have:=wBE kp (List.range i)
  rwa [wBQ]at this
 by_cases hi:i<u.blocks.length
 ·refine gK ?_;obtain⟨l1,o1,x1,x2⟩:=H3.Mf 1 rfl (S i hi) .i64;refine eh x1 (eh x2 (jj ?_));have hr:((List.range (i+1)).filter kp).length=((List.range i).filter kp).length+(if kp i=true then 1 else 0):=by
   rw[Yl,wB0,KC,wBn];split <;> rfl
  by_cases A:kp i=true
  ·refine gz A ?_;obtain⟨l2,o2,h4,e1,e2,_,H4,s4⟩:=H3.Kh 0 rfl (k:=i) (y:=((List.range i).filter kp).length) (u:=V.I (((List.range i).filter kp).length:Nat)) (by omega) rfl rfl rfl;refine eh e1 ?_;rw[e2,en];simp only[ji]at H4;refine fL (uH ?_);unfold px;rw[if_pos A]at hr;refine fL ⟨k-1,by omega,i+1,ns.set i ((List.range i).filter kp).length,by rw[hr],by omega,by simp[ag],λb hb=>?_,λb hb aE=>?_,s3.trans s4,H4⟩
   ·by_cases e:b=i
    ·subst e;rw[NZ (by omega)];unfold yr;rw[if_pos A]
    ·rw[KP λh=>e h.symm];exact an b (by omega)
   ·rw[KP (by omega)];exact ao b (by omega) aE
  ·refine gh A (uH ?_);unfold px;rw[if_neg A,wBu]at hr;refine fL ⟨k-1,by omega,i+1,ns,by rw[hr];rfl,by omega,ag,λb hb=>?_,λb hb aE=>ao b (by omega) aE,s3,H3⟩;by_cases e:b=i
   ·subst e;rw[ao b (jO _) hi];unfold yr;rw[if_neg A]
   ·exact an b (by omega)
 refine iQ ?_;obtain rfl:i=u.blocks.length:=by omega
 clear hk k ao a6;refine eh (fZ _ _) (eh (fM _ _ _) (oF (H3.ld 7 rfl rfl) (eh (H3.len 3 rfl) ?_)));rw[aT];have H3:eo F h3 (fg wU fS [] .ei::fg eN eR ns (.slice ln 0 u.blocks.length)::fg eB jZ kl (.slice Z 0 u.blocks.length)::fg zh hH xs wv::fg wU fS bs wb::fX eR fa::fX eR fn::fg eZ eR az mQ::eQ lt ty [.I u.func,.I u.pc,wv,wb,ws,mQ]::cs):=H3.add .nil λ_ h=>h;have ag:∀b,b<u.blocks.length->ns[b]? =some (yr kp b):=an
 refine DM (λk l h'=>∃(F':Nat->Prop) (i:Nat) (f:List (Vl×V)) (d:Nat->Option (List Nat×V)) (r:List Int) (W:V),l=[.ptr lt 0,.slice Z 0 u.blocks.length,.slice ln 0 u.blocks.length,W,wb,.I u.blocks.length,.I i]/\i+k=u.blocks.length/\Sn F h F' h'/\
  Sp u kp (Dx u kp true i 0) f d/\AsD (Dx u kp false i 0) az r/\
  eo F' h' (fg wU fS (((List.range i).filter kp).map λb=>(uc u kp b,Ra bs b)) W::fg eN eR ns (.slice ln 0 u.blocks.length)::fg eB jZ kl (.slice Z 0 u.blocks.length)::fg zh hH f wv::fg wU fS bs wb::fX eR d::fX eR fn::fg eZ eR r mQ::eQ lt ty [.I u.func,.I u.pc,wv,wb,ws,mQ]::cs)) ?_ (k:=u.blocks.length)
  ⟨F,0,xs,fa,az,.ei,rfl,by omega,s3,?_,?_,H3⟩
 rotate_left
 ·refine ⟨bz,λi hi=>hc.out i (by omega),λv b k x B hD=>?_,λv x hx _=>?_⟩
  ·rcases hD with⟨_,_,h,_⟩|⟨_,h,_⟩ <;> omega
  ·rw[<-hc.fst,Dn]at hx
   cases hy:xs[v]? with
   |none=>rw[hy]at hx;cases hx
   | some y=>
     rw[hy]at hx;cases hx;exact⟨y.2,rfl,hc.row v y.1 y.2 hy⟩
 ·refine⟨rfl,λv hD=>?_,λv _=>rfl⟩;rcases hD with⟨_,_,h,_⟩|⟨_,h,_⟩ <;> omega
 clear H3 s3 hi an;rintro k _ _ _ W _ _ _ h4 ⟨K,i,f,d,r,_,⟨⟩,hk,s4,D,aa,H4⟩;unfold wG;by_cases hi:i<u.blocks.length
 ·refine gK ?_;obtain⟨⟨B,wn⟩,N⟩:∃y,bs[i]? =some y:=⟨_,iy (by omega)⟩
  have T:u.blocks[i]? =some B:=by rw[<-hb.fst,Dn,N];rfl
  have aF:Ra bs i=wn:=by unfold Ra;rw[N]
  obtain ⟨l1,o1,w1,x1,x2,⟨bv,bp,rfl,iv,ip,aG⟩,_⟩:=H4.YC 4 rfl N .i64;have x1:gB 6 wb (.I i)=some (.ptr l1 o1):=x1;have x2:fW 6 (.ptr l1 o1) h4=some (.agg (km B bv wn bp)):=x2;refine eh x1 (eh x2 ?_);refine gZ H4 rfl rfl (by simp only[km,eJ,iv.one,ip.one,aG];rfl) λh5 H5 s5=>?_;generalize h4.next=lb at*;have iv:=iv.since s5;have ip:=ip.since s5;clear x1 x2;obtain⟨l2,o2,y1,y2⟩:=H5.Mf 3 rfl (S i hi) .i64;refine eh y1 (eh y2 (rP ?_));have a7:∀c v,Dx u kp c (i+1) 0 v↔Dx u kp c i 0 v\/(kp i=c/\∃k,At u v i k):=λc v=>by
   constructor
   ·rintro(⟨b,k,n,O,h3⟩|⟨k,n,_⟩)
    ·by_cases e:b=i
     ·subst e;exact .inr ⟨O,k,h3⟩
     ·exact .inl (.inl ⟨b,k,by omega,O,h3⟩)
    ·omega
   ·rintro((⟨b,k,n,O,h3⟩|⟨k,n,_⟩)|⟨n,k,O⟩)
    ·exact .inl ⟨b,k,by omega,O,h3⟩
    ·omega
    ·exact .inl ⟨i,k,by omega,n,O⟩
  have ap:∀c j w,B.ej[j]? =some w->∀v,Dx u kp c i (j+1) v↔Dx u kp c i j v\/v=w:=λc j w hw v=>by
   constructor
   ·rintro (n|⟨k,n,O⟩)
    ·exact .inl (.inl n)
    ·by_cases e:k=j
     ·subst e;obtain⟨B',e1,e2⟩:=O
      simp_all
     ·exact .inl (.inr ⟨k,by omega,O⟩)
   ·rintro((n|⟨k,n,O⟩)|rfl)
    ·exact .inl n
    ·exact .inr ⟨k,by omega,O⟩
    ·exact .inr ⟨j,by omega,B,T,hw⟩
  have aH:∀c,kp i=c->∀v,Dx u kp c i B.ej.length v↔Dx u kp c (i+1) 0 v:=λc bE v=>by
   rw[a7];constructor
   ·rintro(n|⟨k,n,O⟩)
    ·exact .inl (.inl n)
    ·exact .inr ⟨bE,k,O⟩
   ·rintro((n|⟨k,n,_⟩)|⟨_,k,B',e1,e2⟩)
    ·exact .inl n
    ·omega
    ·rw[T]at e1;cases e1;exact .inr ⟨k,(ki.1 e2).1,B,T,e2⟩
  have ce:B.ej.length<=u.ej.length:=by
   refine jM u.ej.length B.ej ?_ λv hv=>?_
   ·rw[List.nodup_iff_pairwise_ne,wA5];intro a b ha hb cj e;have:=(g.FQ B.ej[a] i a i b ⟨B,T,iy ha⟩ ⟨B,T,by rw[e];exact iy hb⟩).2;omega
   ·obtain⟨k,hk⟩:=oY.1 hv;exact g.ko v i k ⟨B,T,hk⟩
  by_cases A:kp i=true
  ·refine gz A ?_;have bG:=g.pre i B T;have aI:u.blocks.getD i Qj=B:=by rw[Je,T];rfl
   refine oF (H5.ld 0 rfl rfl) (eh ip.len ?_);obtain⟨c,aJ⟩:∃c:Nat->Bool,(λj=>kp (B.fi.getD j 0)&&(next u (B.fi.getD j 0)).contains i)=c:=⟨_,rfl⟩
   have aK:(List.range B.fi.length).filter c=yJ u kp i B.fi:=by rw[<-aJ];rfl
   have H5:=(H5.add (p:=fg eN eR [] .ei) .nil λ_ h=>h).add (p:=fg eN eR [] .ei) .nil λ_ h=>h
   refine DZ (λk' l h'=>∃(j:Nat) (U s:V),l=[.ptr lt 0,.slice Z 0 u.blocks.length,.slice ln 0 u.blocks.length,W,.I i,.ptr lb 0,U,s,wb,.I u.blocks.length,.I i,bp,.I B.fi.length,.I j]/\j+k' = B.fi.length/\Sn F h K h'/\Sn K h5 K h'/\
    eo K h' (fg eN eR (((List.range j).filter c).map λj=>yr kp (B.fi.getD j 0)) s::fg eN eR ((List.range j).filter c) U::eQ lb 45 (km B bv wn bp)::fg wU fS (((List.range i).filter kp).map λb=>(uc u kp b,Ra bs b)) W::fg eN eR ns (.slice ln 0 u.blocks.length)::fg eB jZ kl (.slice Z 0 u.blocks.length)::fg zh hH f wv::fg wU fS bs wb::fX eR d::fX eR fn::fg eZ eR r mQ::eQ lt ty [.I u.func,.I u.pc,wv,wb,ws,mQ]::cs)) ?_ (k:=B.fi.length)
    ⟨0,.ei,.ei,rfl,by omega,s4.trans s5,Sn.refl _ _,H5⟩
   clear H5 H4;rintro k' _ _ _ _ _ _ U s _ _ _ _ _ _ h6 ⟨j,_,_,⟨⟩,ai,s6,ab,R⟩;unfold vN;have aX:((List.range j).filter c).length<=j:=by
    have:=wBE c (List.range j)
    rwa [wBQ]at this
   by_cases hj:j<B.fi.length
   ·refine gK ?_;have hx:=iy hj;have aq:=bG.2 B.fi[j] (AY hj);have a8:B.fi.getD j 0=B.fi[j]:=by rw[Je,hx];rfl
    generalize B.fi[j]=p at*;obtain⟨l1,o1,_,x1,x2⟩:=(ip.since ab).nat hx .i64;obtain⟨l2,o2,y1,y2⟩:=R.Mf 5 rfl (S p aq) .i64;refine eh x1 (eh x2 (eh y1 (eh y2 ?_)));have a9:=xd c j;have ar:c j=(kp p&&(next u p).contains i):=by rw[<-aJ];simp only[a8]
    cases hkp':kp p with
    | false=>
      refine iu (iu (iu (iu (iu (iu (iu (iu (iu (iu (GL ?_))))))))));refine eh (show jB (.bool false) .undef (.bool false)=some (.bool false) from rfl) (jj (gh (by decide) (pb ?_)));unfold ml;refine lZ (m:=1) (by omega) (by omega) ⟨k'-1,by omega,j+1,U,s,rfl,by omega,s6,ab,?_⟩;rw[a9,show c j=false by rw[ar,hkp'];rfl]
      simpa using R
    | true=>
      obtain⟨⟨P,wp⟩,aL⟩:∃y,bs[p]? =some y:=⟨_,iy (by omega)⟩
      have hP:u.blocks[p]? =some P:=by rw[<-hb.fst,Dn,aL];rfl
      have bH:next u p=P.next:=by unfold next;rw[hP]
      obtain⟨l3,o3,w3,z1,_,⟨pv,pp,rfl,_,_,_⟩,z2⟩:=R.YC 7 rfl aL .i64;have z1:gB 6 wb (.I (p:Nat))=some (.ptr l3 o3):=z1;have z3:=z2 3 wp rfl;refine fY (eh rfl (fY (eh (fZ _ _) (fY (eh (fM _ _ _) (fY (eh (fM _ _ _) (fY (eh (R.ld 11 rfl rfl) (fY (eh rfl (fY (eh z1 (fY (eh (fM _ _ _) (fY (eh z3 (fY (eh rfl (vS ?_))))))))))))))))))));refine zcP (R.rows 9 rfl (hb.row p P wp aL)).read (by have:=g.walk.two p P hP;omega) i ?_;rw[<-bH];refine eh (by rfl) (jj ?_);rw[hkp',wBr]at ar;by_cases aj:(next u p).contains i=true
      ·refine gz aj ?_
       rw[aj]at ar;rw[qB,hX];obtain⟨X,s7⟩:=R.Aw eR (ic [j]);have X:eo K (h6.new (.cells 3 1 true false (ic [j]))) (eQ h6.next 3 (ic [j])::_):=X;have s7:Sn K h6 K (h6.new (.cells 3 1 true false (ic [j]))):=s7;generalize h6.new (.cells 3 1 true false (ic [j]))=h7 at*;generalize h6.next=r1 at*;obtain⟨l4,o4,n1,n2⟩:=X.Ng 5 rfl (ag p aq) .i64;refine eh n1 (eh n2 ?_);rw[qB,hX];obtain⟨J,s8⟩:=X.Aw eR (ic [yr kp p]);have J:eo K (h7.new (.cells 3 1 true false (ic [yr kp p]))) (eQ h7.next 3 (ic [yr kp p])::eQ r1 3 (ic [j])::_):=J;have s8:Sn K h7 K (h7.new (.cells 3 1 true false (ic [yr kp p]))):=s8;generalize h7.new (.cells 3 1 true false (ic [yr kp p]))=h8 at*;generalize h7.next=r2 at*;refine⟨⟨J.get 0 rfl,bq⟩,J.zcc 6 rfl (ag p aq) n1,⟨J.get 1 rfl,bq⟩,?_⟩;have J:=J.zdI 1 rfl;simp only[ji,lO]at J;obtain⟨va,h9,e9,n9,Y,s9⟩:=J.zad 3 1 rfl rfl (jP:=8) (by decide) (by decide) (by simp;omega);have ak:fh 3 1 8 U (.slice r1 0 1) h8=some (.val va h9):=e9;simp only[ji,lO]at Y;rw[ak,en];refine⟨n9,⟨Y.get 0 rfl,bq⟩,Y.zcc 6 rfl (ag p aq) n1,?_⟩;have Y:=Y.zdI 0 rfl;simp only[ji]at Y;obtain⟨vc,bI,bJ,bK,al,bL⟩:=Y.zad 2 0 rfl rfl (jP:=8) (by decide) (by decide) (by simp;omega);have ba:fh 3 1 8 s (.slice r2 0 1) h9=some (.val vc bI):=bJ;rw[ba,en];simp only[ji,lO]at al;refine⟨bK,pb ?_⟩;unfold ml;have sA:=((s7.trans s8).trans s9).trans bL;refine lZ (m:=1) (by omega) (by omega) ⟨k'-1,by omega,j+1,va,vc,rfl,by omega,s6.trans sA,ab.trans sA,?_⟩;rw[a9,ar,if_pos rfl,Lj,wB7,wB2,a8];exact al.tail.tail
      ·refine gh aj (pb ?_)
       unfold ml;refine lZ (m:=1) (by omega) (by omega) ⟨k'-1,by omega,j+1,U,s,rfl,by omega,s6,ab,?_⟩
       simp_all
   refine iQ ?_;obtain rfl:j=B.fi.length:=by omega
   rw[aK]at R;have oh:(yJ u kp i B.fi).length<=700:=by rw[<-aK];omega
   have bQ:∀m∈yJ u kp i B.fi,m<B.fi.length:=λm hm=>by
    unfold yJ at hm;exact ZG.1 (Rl.1 hm).1
   have bb:(yJ u kp i B.fi).map (λj=>yr kp (B.fi.getD j 0))=zA u kp i B.fi:=rfl;rw[bb]at R;clear ai k' aX hj aK aJ c bb;refine oF (R.ld 2 rfl rfl) (eh iv.len ?_);have bc:=iv.since ab;clear iv ip ab
   refine DH (λk' l h'=>∃(j:Nat) (f:List (Vl×V)) (d:Nat->Option (List Nat×V)),l=[.ptr lt 0,.slice Z 0 u.blocks.length,.slice ln 0 u.blocks.length,W,.ptr lb 0,U,s,wb,.I u.blocks.length,.I i,bv,.I B.ej.length,.I j]/\j+k' = B.ej.length/\Sn F h K h'/\Sn K h6 K h'/\Sp u kp (Dx u kp true i j) f d/\
    eo K h' (fg eN eR (zA u kp i B.fi) s::fg eN eR (yJ u kp i B.fi) U::eQ lb 45 (km B bv wn bp)::fg wU fS (((List.range i).filter kp).map λb=>(uc u kp b,Ra bs b)) W::fg eN eR ns (.slice ln 0 u.blocks.length)::fg eB jZ kl (.slice Z 0 u.blocks.length)::fg zh hH f wv::fg wU fS bs wb::fX eR d::fX eR fn::fg eZ eR r mQ::eQ lt ty [.I u.func,.I u.pc,wv,wb,ws,mQ]::cs)) ?_ (k:=B.ej.length)
    ⟨0,f,d,rfl,by omega,s6,Sn.refl _ _,D,R⟩
   clear R s6 D;rintro k' _ _ _ _ _ _ _ _ _ _ _ _ _ h7 ⟨j,f,d,⟨⟩,ai,s7,au,D,X⟩;unfold wz;by_cases hj:j<B.ej.length
   ·refine gK ?_;have hx:=iy hj;generalize B.ej[j]=v at*;have L:At u v i j:=⟨B,T,hx⟩
    have aw:=g.ko v i j L;obtain⟨l1,o1,_,x1,x2⟩:=(bc.since au).nat hx .i64;obtain⟨x,ax⟩:∃x,u.ej[v]? =some x:=⟨_,iy aw⟩
    have bR:¬Dx u kp true i j v:=by
     rintro(⟨b,k,n,_,O⟩|⟨k,n,O⟩)
     ·have:=(g.FQ _ _ _ _ _ O L).1;omega
     ·have:=(g.FQ _ _ _ _ _ O L).2;omega
    obtain⟨w,aM,bS⟩:=D.same v x ax λh=>bR h.2;obtain⟨lv,ov,wl,y1,_,⟨rfl,w1⟩,y2⟩:=X.YC 6 rfl aM .i64;have y1:gB 6 wv (.I v)=some (.ptr lv ov):=y1;refine eh x1 (eh x2 (eh (fZ _ _) (eh (fM _ _ _) (oF (X.ld 11 rfl rfl) (eh y1 (oN (y2 0 _ rfl) (gy ?_)))))));by_cases ae:x.op=21
    ·refine gz (by show(x.op:Int)=21;omega) (eh (X.len 1 rfl) ?_);have bU:=g.args v x ax;have cf:=g.KN v i j x B L ax ae T;have J:=X.add (p:=fg eN eR [] .ei) .nil λ_ h=>h
     refine Dp (λaN l h'=>∃(m:Nat) (vr:V),l=[.ptr lt 0,.slice Z 0 u.blocks.length,.slice ln 0 u.blocks.length,W,.ptr lb 0,U,s,.ptr lv ov,vr,wb,.I u.blocks.length,.I i,bv,.I B.ej.length,.I j,U,.I ((yJ u kp i B.fi).length:Nat),.I m]/\m+aN=(yJ u kp i B.fi).length/\Sn K h7 K h'/\
      eo K h' (fg eN eR (((yJ u kp i B.fi).take m).map λj=>x.args.getD j 0) vr::fg eN eR (zA u kp i B.fi) s::fg eN eR (yJ u kp i B.fi) U::eQ lb 45 (km B bv wn bp)::fg wU fS (((List.range i).filter kp).map λb=>(uc u kp b,Ra bs b)) W::fg eN eR ns (.slice ln 0 u.blocks.length)::fg eB jZ kl (.slice Z 0 u.blocks.length)::fg zh hH f wv::fg wU fS bs wb::fX eR d::fX eR fn::fg eZ eR r mQ::eQ lt ty [.I u.func,.I u.pc,wv,wb,ws,mQ]::cs)) ?_ (k:=(yJ u kp i B.fi).length)
      ⟨0,.ei,rfl,by omega,Sn.refl _ _,J⟩
     clear J X y2;rintro aN _ _ _ _ _ _ _ _ vr _ _ _ _ _ _ _ _ _ h8 ⟨m,_,⟨⟩,cg,aO,J⟩;unfold vJ;obtain⟨bd,be,wl,y3,_,⟨rfl,_⟩,y4⟩:=J.YC 7 rfl aM .i64;have y3:gB 6 wv (.I v)=some (.ptr bd be):=y3;rw[y1]at y3;obtain⟨rfl,rfl⟩:lv=bd/\ov=be:=by cases y3;exact⟨rfl,rfl⟩
     clear y3;by_cases hm:m<(yJ u kp i B.fi).length
     ·refine gK ?_;have hq:=iy hm;have aD:=Fz hq;have cm:=bQ _ (AY hm);generalize (yJ u kp i B.fi)[m]=q at*;obtain⟨l2,o2,z1,z2⟩:=J.Ng 2 rfl hq .i64;have ha:=iy (show q<x.args.length by omega);have bV:x.args.getD q 0=x.args[q]:=by rw[Je,ha];rfl
      generalize x.args[q]=a at*;obtain⟨l3,o3,_,z3,z4⟩:=(J.rows 9 rfl bS).read.nat ha .i64;refine eh z1 (eh z2 (oN (y4 4 _ rfl) (eh z3 (eh z4 ?_))));rw[qB,fE];obtain⟨va,h9,e9,_,Y,s9⟩:=J.rU 0 rfl (jP:=8) (zL:=3) (y:=a) (w:=ic [a]) (ro:=false) rfl (by decide) (by decide) (by simp;omega);have ak:fh 3 1 8 vr (.slice h8.next 0 1) (h8.new (.cells 3 1 true false (ic [a])))=some (.val va h9):=e9;rw[ak,en];simp only[ji]at Y;refine fL ⟨aN-1,by omega,m+1,va,rfl,by omega,aO.trans s9,?_⟩;rw[aD,Lj,wB7,wB2,bV];exact Y
     refine iQ ?_;obtain rfl:m=(yJ u kp i B.fi).length:=by omega
     rw [Ki]at J;have J:eo K h8 (fg eN eR (xF u kp i B.fi x.args) vr::_):=J;have bf:=J.one 0 rfl;have aA:=ki.1 aM;obtain⟨lq,h9,e1,e2,_,Y,s9⟩:=J.stF 7 rfl (k:=v) (j:=4) (y:=({x with args:=xF u kp i B.fi x.args},vr)) (a:=vr) aA.1 (by decide) bf (λw' hw=>by
      rw[aA.2]at hw;obtain⟨rfl,_⟩:=hw;exact⟨rfl,bf⟩)
     have e1:gB 6 wv (.I v)=some (.ptr lq (v*6)):=e1;rw[y1]at e1;obtain⟨rfl,rfl⟩:lv=lq/\ov=v*6:=by cases e1;exact⟨rfl,rfl⟩
     have e2:gJ 1 (.ptr lv (v*6+4)) vr h8=some (.val .undef h9):=e2;refine eh (fZ _ _) (eh (fM _ _ _) ?_);rw[e2,en];simp only[ji,lO]at Y;have al:=Y.Rv 9 rfl (up d v Option.none) id (by grind[jn,jk]) (λ_ _ _ _ _ _ e=>e);simp only[ji,lO]at al;have aP:=al.Zt 8 rfl (i:=v) (jn _ _ _);simp only[ji,lO]at aP;have bg:up (up d v Option.none) v (some (xF u kp i B.fi x.args,vr))=up d v (some (xF u kp i B.fi x.args,vr)):=funext (by grind[jn,jk]);rw[bg]at aP;refine ui ?_;unfold pe;have c2:=D.put g L ax ae T vr;refine fL ⟨k'-1,by omega,j+1,_,_,rfl,by omega,(s7.trans aO).trans s9,(au.trans aO).trans s9,?_,aP⟩;exact c2.more (λa ha=> .inl ((ap true j v hx a).1 ha)) λa ha=>(ap true j v hx a).2 ha
    ·refine gh (by show ¬(x.op:Int)=21;omega) (ui ?_);unfold pe;refine fL ⟨k'-1,by omega,j+1,f,d,rfl,by omega,s7,au,D.more (λa ha=>?_) (λa ha=>(ap true j v hx a).2 (.inl ha)),X⟩
     grind
   refine iQ ?_;obtain rfl:j=B.ej.length:=by omega
   clear ai k' hj;have bW:=bc.since au;obtain⟨J,s8,rp⟩:=X.kL 0 rfl;simp only[ji]at J;have bX:=bW.since s8;generalize (λl=>K l\/Loc s l)=F8 at*;have J:=J.tail.tail;obtain⟨h9,e9,_,Y,s9⟩:=J.st 0 (o:=4) (u:=s) rfl (by simp[km]) rp.one;refine eh (fM _ _ _) ?_;have ak:gJ 1 (.ptr lb (0+4)) s h7=some (.val .undef h9):=by rw[zO];exact e9
   rw[ak,en];simp only[ji]at Y;have bh:uc u kp i = {B with fi:=zA u kp i B.fi}:=by unfold uc;rw[aI]
   have aj:(km B bv wn bp).set 4 s=km (uc u kp i) bv wn s:=by rw[bh];rfl
   rw [aj]at Y;have bi:=bX.since s9;have bj:=rp.since s9;refine eh (Y.pC 0 rfl rfl) ?_;have Y:=Y.tail;rw[nW (sz:=6) (w:=km (uc u kp i) bv wn s) rfl rfl (by simp only[km,eJ,bi.one,aG,bj.one];rfl),fE];have cn:((List.range i).filter kp).length<=i:=by
    have:=wBE kp (List.range i)
    rwa [wBQ]at this
   obtain⟨bm,hA,eA,_,HA,sA⟩:=Y.rU 0 rfl (jP:=96) (zL:=45) (y:=(uc u kp i,wn)) (w:=km (uc u kp i) bv wn s) (ro:=false) (by rw[bh];exact⟨bv,s,rfl,bi,bj,aG⟩) (by decide) (by decide) (by simp;omega);have bY:fh 45 6 96 W (.slice h9.next 0 1) (h9.new (.cells 45 6 true false (km (uc u kp i) bv wn s)))=some (.val bm hA):=eA;rw[bY,en];simp only[ji]at HA;refine uk ?_;unfold pw;refine fL ⟨k-1,by omega,F8,i+1,f,d,r,bm,rfl,by omega,((s7.trans s8).trans s9).trans sA,?_,?_,?_⟩
   ·exact D.more (λv n=> .inl ((aH true A v).2 n)) λv n=>(aH true A v).1 n
   ·refine aa.congr λv=>?_
    simp_all
   ·rw[xd,A,if_pos rfl,Lj,wB7,wB2,aF];exact HA
  ·refine gh A ?_;have A:kp i=false:=wBj.2 A;refine oF (H5.ld 0 rfl rfl) (eh iv.len ?_);have H5:=H5.tail
   refine D0 (λk' l h'=>∃(j:Nat) (r:List Int),l=[.ptr lt 0,.slice Z 0 u.blocks.length,.slice ln 0 u.blocks.length,W,wb,.I u.blocks.length,.I i,bv,.I B.ej.length,.I j]/\j+k' = B.ej.length/\Sn F h K h'/\Sn K h5 K h'/\AsD (Dx u kp false i j) az r/\
    eo K h' (fg wU fS (((List.range i).filter kp).map λb=>(uc u kp b,Ra bs b)) W::fg eN eR ns (.slice ln 0 u.blocks.length)::fg eB jZ kl (.slice Z 0 u.blocks.length)::fg zh hH f wv::fg wU fS bs wb::fX eR d::fX eR fn::fg eZ eR r mQ::eQ lt ty [.I u.func,.I u.pc,wv,wb,ws,mQ]::cs)) ?_ (k:=B.ej.length)
    ⟨0,r,rfl,by omega,s4.trans s5,Sn.refl _ _,aa,H5⟩
   clear H5 H4;rintro k' _ _ _ W _ _ _ _ _ _ h6 ⟨j,r,⟨⟩,ai,s6,ab,aa,R⟩;unfold wI;by_cases hj:j<B.ej.length
   ·refine gK ?_;have hx:=iy hj;generalize B.ej[j]=v at*;have aw:=g.ko v i j ⟨B,T,hx⟩;obtain⟨l1,o1,_,x1,x2⟩:=(iv.since ab).nat hx .i64;refine eh x1 (eh x2 (oN (R.ld 8 rfl rfl) ?_));obtain⟨l2,o2,h7,e1,e2,_,X,s7⟩:=R.Kh 7 rfl (k:=v) (y:=(-1:Int)) (u:=V.I (-1)) (by rw[aa.len];omega) rfl rfl rfl;refine eh e1 ?_;rw[e2,en];simp only[ji,lO]at X;exact fL ⟨k'-1,by omega,j+1,r.set v (-1),rfl,by omega,s6.trans s7,ab.trans s7,(aa.put v).congr λa=>(ap false j v hx a).symm,X⟩
   refine iQ (uk ?_);unfold pw;obtain rfl:j=B.ej.length:=by omega
   refine fL ⟨k-1,by omega,K,i+1,f,d,r,_,rfl,by omega,s6,?_,aa.congr (aH false A),?_⟩
   ·refine D.more (λv n=> .inl ?_) λv n=>(a7 true v).2 (.inl n)
    simp_all
   ·rw[xd,A];simpa using R
 refine iQ ?_;obtain rfl:i=u.blocks.length:=by omega
 clear hk k hi;have aW:(oi u kp).length<=u.blocks.length:=by
  have:=wBE kp (List.range u.blocks.length)
  rwa [wBQ]at this
 rw[show(List.range u.blocks.length).filter kp=oi u kp from rfl]at H4;refine eh (H4.len 0 rfl) ?_;rw[Ik];have co:(oi u kp).Nodup:=List.nodup_range.filter _;have bo:∀b∈oi u kp,b<u.blocks.length:=λb hb=>ZG.1 (Rl.1 hb).1
 refine Ej (λk l h'=>∃(i:Nat) (I:Nat->Option (List Nat×V)),l=[.ptr lt 0,.slice ln 0 u.blocks.length,W,.I ((oi u kp).length:Nat),.I i]/\i+k=(oi u kp).length/\Sn F h K h'/\
  (∀b B w,bs[b]? =some (B,w)->I b=some (if b∈(oi u kp).take i then B.next.map (yr kp) else B.next,w))/\
  eo K h' (fg wU fS ((oi u kp).map λb=>(uc u kp b,Ra bs b)) W::fg eN eR ns (.slice ln 0 u.blocks.length)::fg eB jZ kl (.slice Z 0 u.blocks.length)::fg zh hH f wv::fg wU fS bs wb::fX eR d::fX eR I::fg eZ eR r mQ::eQ lt ty [.I u.func,.I u.pc,wv,wb,ws,mQ]::cs)) ?_ (k:=(oi u kp).length)
  ⟨0,fn,rfl,by omega,s4,λb B w bZ=>by rw[hb.row b B w bZ];simp,H4⟩
 clear H4 s4;rintro k _ _ _ _ _ h5 ⟨i,I,⟨⟩,hk,s5,ah,H5⟩;unfold wP;by_cases hi:i<(oi u kp).length
 ·refine gK ?_;have hx:=iy hi;have aD:=Fz hx;have bD:=bo _ (AY hi);have b4:(oi u kp)[i] ∉ (oi u kp).take i:=by grind[oY,ki,Mq,wBB,yZ]
  generalize (oi u kp)[i]=b at*;obtain⟨⟨B,wn⟩,N⟩:∃y,bs[b]? =some y:=⟨_,iy (by omega)⟩
  have T:u.blocks[b]? =some B:=by rw[<-hb.fst,Dn,N];rfl
  have aF:Ra bs b=wn:=by unfold Ra;rw[N]
  have br:((oi u kp).map λb=>(uc u kp b,Ra bs b))[i]? =some (uc u kp b,wn):=by rw[Dn,hx,<-aF];rfl
  have cp:=g.walk.two b B T;have b5:∀t∈B.next,t<u.blocks.length:=λt ht=>g.walk.nx b t (by unfold next;rw[T];exact ht);have ac:=ah b B wn N;rw[if_neg b4]at ac;obtain⟨lo,oo,w1,z1,_,⟨pv,pp,rfl,_,_,_⟩,z2⟩:=H5.YC 0 rfl br .i64;have z1:gB 6 W (.I i)=some (.ptr lo oo):=z1;have z3:=z2 3 wn rfl;refine eh z1 (oF z3 (eh (H5.rows 6 rfl ac).len ?_))
  refine Eu (λk' l h'=>∃(j:Nat) (I:Nat->Option (List Nat×V)),l=[.ptr lt 0,.slice ln 0 u.blocks.length,W,.I i,.I ((oi u kp).length:Nat),.I i,wn,.I B.next.length,.I j]/\j+k' = B.next.length/\Sn F h K h'/\
   (∀c B w,c≠b->bs[c]? =some (B,w)->I c=some (if c∈(oi u kp).take i then B.next.map (yr kp) else B.next,w))/\I b=some ((B.next.take j).map (yr kp)++B.next.drop j,wn)/\
   eo K h' (fg wU fS ((oi u kp).map λb=>(uc u kp b,Ra bs b)) W::fg eN eR ns (.slice ln 0 u.blocks.length)::fg eB jZ kl (.slice Z 0 u.blocks.length)::fg zh hH f wv::fg wU fS bs wb::fX eR d::fX eR I::fg eZ eR r mQ::eQ lt ty [.I u.func,.I u.pc,wv,wb,ws,mQ]::cs)) ?_ (k:=B.next.length)
   ⟨0,I,rfl,by omega,s5,λc B w _ hc=>ah c B w hc,ac,H5⟩
  clear H5 s5 z2 z3 ac ah;rintro k' _ _ _ _ _ _ _ _ _ h6 ⟨j,I,⟨⟩,ai,s6,ah,ac,R⟩;unfold vQ;obtain⟨b6,b7,w1,z4,_,⟨pv,pp,rfl,_,_,_⟩,z2⟩:=R.YC 0 rfl br .i64;have z4:gB 6 W (.I i)=some (.ptr b6 b7):=z4;have z3:=z2 3 wn rfl;by_cases hj:j<B.next.length
  ·refine gK ?_;have hn:=iy hj;have aB:((B.next.take j).map (yr kp)++B.next.drop j)[j]? =some B.next[j]:=by
    rw[VG (by simp;omega)];simp[Mq,wBl (Nat.le_of_lt hj)]
   have bt:((B.next.take j).map (yr kp)++B.next.drop j).set j (yr kp B.next[j])=(B.next.take (j+1)).map (yr kp)++B.next.drop (j+1):=by
    have hL:((B.next.take j).map (yr kp)).length=j:=by rw[Ik,Mq];omega
    rw[Fz hn,Lj,Lb,ZH hj,List.set_append_right _ _ (by omega),hL,Nat.sub_self];rfl
   have aQ:j<((B.next.take j).map (yr kp)++B.next.drop j).length:=(ki.1 aB).1;have b8:=b5 _ (AY hj);generalize B.next[j]=t at*;obtain⟨l1,o1,_,x1,x2⟩:=(R.rows 6 rfl ac).read.nat aB .i64;obtain⟨l2,o2,y1,y2⟩:=R.Ng 1 rfl (ag t b8) .i64;obtain⟨l3,o3,h7,e1,e2,n7,X,s7⟩:=R.XZ 6 rfl ac aQ (yr kp t);refine eh x1 (eh x2 (eh z4 (oF z3 (eh y1 (eh y2 (eh e1 ?_))))));rw[e2,en];simp only[ji,lO]at X;refine⟨n7,fL ⟨k'-1,by omega,j+1,_,rfl,by omega,s6.trans s7,λc C w bu hc=>?_,?_,X⟩⟩
   ·rw[jk _ _ bu];exact ah c C w bu hc
   ·rw[jn,bt]
  refine iQ ?_;obtain rfl:j=B.next.length:=by omega
  rw[Ki,List.drop_length,JL]at ac;refine fL ⟨k-1,by omega,i+1,I,rfl,by omega,s6,λc C w hc=>?_,R⟩
  grind
 refine iQ ?_;obtain rfl:i=(oi u kp).length:=by omega
 rw [Ki]at ah;clear hk k hi;obtain⟨h6,e6,_,R,s6⟩:=H5.st 8 (o:=3) (u:=W) rfl (by simp) (H5.one 0 rfl);refine eh (fZ _ _) (eh (fM _ _ _) (eh (fM _ _ _) ?_));have b9:gJ 1 (.ptr lt (0+0+3)) W h5=some (.val .undef h6):=e6;rw[b9,en];simp only[ji,lO]at R;have ca:∀b,b∈oi u kp->∃B,u.blocks[b]? =some B/\bs[b]? =some (B,Ra bs b)/\u.blocks.getD b Qj=B:=λb cb=>by
  obtain⟨⟨B,w⟩,N⟩:∃y,bs[b]? =some y:=⟨_,iy (by have:=bo b cb;omega)⟩
  have T:u.blocks[b]? =some B:=by rw[<-hb.fst,Dn,N];rfl
  exact⟨B,T,by unfold Ra;rw[N],by rw[Je,T];rfl⟩
 have X:=R.ZW (E':=wU) (ys:=(oi u kp).map λb=>(JB u kp b,Ra bs b)) 0 rfl rfl (by simp) λk x y ws hx hy hr=>by
  rw[Dn]at hx hy
  cases hkk:(oi u kp)[k]? with
  |none=>rw[hkk]at hx;cases hx
  | some b=>
    rw[hkk]at hx hy;cases hx;cases hy;exact hr
 simp only[ji]at X;obtain⟨am,bw⟩:∃am:Nat->Option (List Nat×V),∀k,am k=match (oi u kp)[k]? with|some b=>I b|none=>Option.none:=⟨_,λ_=>rfl⟩
 have cd:∀{k b:Nat},(oi u kp)[k]? =some b->am k=I b:=λhk=>by rw[bw,hk]
 have J:=X.Rv 6 rfl am (λk=>(oi u kp).getD k 0) (by grind) (by grind[oi,yZ]);simp only[ji,lO]at J;have hU:∀c v,Dx u kp c u.blocks.length 0 v↔∃b k,At u v b k/\kp b=c:=λc v=>by
  constructor
  ·rintro(⟨b,k,_,h3,h4⟩|⟨k,h3,_⟩)
   ·exact⟨b,k,h4,h3⟩
   ·omega
  ·rintro⟨b,k,h4,h3⟩;exact .inl ⟨b,k,(let⟨_,h,_⟩:=h4;(ki.1 h).1),h3,h4⟩
 refine H K h6 seen post kp ⟨u.func,u.pc,f.map Prod.fst,(oi u kp).map (JB u kp),u.ev⟩ f ((oi u kp).map λb=>(JB u kp b,Ra bs b)) d am r W (s5.trans s6) G aZ ⟨rfl,rfl,rfl,rfl,by rw[Ik,D.len],λv b k x B L hx ae S T=>?_,λv x hx hn=>?_⟩ ⟨rfl,λv x w hx=>?_,λv hv=>D.out v (by rw[D.len]at hv;exact hv)⟩ ⟨by rw[List.map_map];rfl,λk B w hx=>?_,λk hk=>?_⟩ ⟨aa.len,λv b k L S hv=>aa.gone v ((hU false v).2 ⟨b,k,L,S⟩) hv,λv hn=>aa.same v λhD=>hn ((hU false v).1 hD)⟩ J.Wz
 ·obtain⟨w,n,_⟩:=D.KN v b k x B ((hU true v).2 ⟨b,k,L,S⟩) L hx ae T;rw[Dn,n];rfl
 ·obtain⟨w,n,_⟩:=D.same v x hx λ⟨n,O⟩=>hn ⟨n,(hU true v).1 O⟩;rw[Dn,n];rfl
 ·have aw:v<u.ej.length:=by rw[<-D.len];exact(ki.1 hx).1
  have hy:=iy aw;generalize u.ej[v]=y at*;by_cases hD:y.op=21/\Dx u kp true u.blocks.length 0 v
  ·obtain⟨b,k,L,S⟩:=(hU true v).1 hD.2;obtain⟨B,T,cq⟩:=id L;obtain⟨w',n,O⟩:=D.KN v b k y B hD.2 L hy hD.1 T;rw[hx]at n;cases n;exact O
  ·obtain⟨w',n,O⟩:=D.same v y hy hD;rw[hx]at n;cases n;exact O
 ·rw[Dn]at hx
  cases hkk:(oi u kp)[k]? with
  |none=>rw[hkk]at hx;cases hx
  | some b=>
    rw[hkk]at hx;cases hx;obtain⟨B,T,N,aI⟩:=ca b (DG hkk);rw[cd hkk,ah b B _ N,if_pos (DG hkk)];unfold JB;rw[aI]
 ·rw[Ik]at hk;rw[bw,OE hk]
end
