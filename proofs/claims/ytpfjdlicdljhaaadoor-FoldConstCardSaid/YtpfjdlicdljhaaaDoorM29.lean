/- Parts. -/
import Derived.Test.YtpfjdlicdljhaaaDoorM28
set_option maxHeartbeats 4000000
namespace Go.Proofs.YtpfjdlicdljhaaaDoor.Hx
open Un Dm
def oY.fix{α:Type}(E:oY α)(F:Nat->Prop)(h:Hp):oY α where
 sz:=E.sz
 rel _ _ x cs:=E.rel F h x cs
 len h:=E.len h
 one h:=E.one h
 dO _ h:=h
 mono _ h:=h
section
variable{F F':Nat->Prop}{h h':Hp}{cs ds:List Pc}{Q:dg}{u:U}{vv vb vs:V}
theorem cS.RC{α:Type}{E:oY α}{ty:Nat}{xs:List α}{v:V}(H:cS F h cs)(i:Nat)(hi:cs[i]? =some (cW E ty xs v)){k:Nat}{x:α}(hk:xs[k]? =some x)(kd:IntKind) :
  ∃l o w,eX E.sz v (.int kd k)=some (.ptr l o)/\eg E.sz (.ptr l o) h=some (.agg w)/\E.rel F h x w/\∀j u,w[j]? =some u->df (.ptr l (o+j)) h=some u:=by
 obtain⟨c,rfl⟩:=gL.1 hk;have a:=(gL.1 hi).1;exact(H.PA (E':=E.fix F h) i hi rfl rfl λk x y cs d b e=>by rw[d]at b;cases b;exact e).ix i (HT a) c kd
theorem Vw{l ty:Nat}{a b c d e f:V}(H:cS F h cs)(i:Nat)(hi:cs[i]? =some (cV l ty [a,b,c,d,e,f])):eg 5 (.ptr l 0) h=some (.agg [a,b,c,d,e]):=by
 rw[xF (H.get i hi)];rfl
theorem cS.Q6(H:cS F h cs)(i j:Nat) {ty d:Nat}{bs:List (Bk×V)}{fn:Nat->Option (List Nat×V)}{wb:V}{l:List Bk}(hi:cs[i]? =some (cW qe ty bs wb))(f:cs[j]? =some (dk d fn))(hc:PT l bs fn):fJ eK (λl=>F l\/E8 cs l) h l wb:=by
 refine(H.row i hi).read.PA rfl (λm c=>c.imp id λc=>⟨i,_,hi,c⟩) (by rw[<-hc.fst,yn]) λk x y ws e g n=>?_;rw[<-hc.fst,w5,e]at g;cases g;have o:=(H.rows j f (hc.row k x.1 x.2 e)).Yg (F':=λl=>F l\/E8 cs l) (by simp_all) λm c=> .inr ⟨j,_,f,k,_,_,hc.row k x.1 x.2 e,c⟩;obtain⟨a,b,p,q,r,_⟩:=n;exact⟨a,x.2,b,p,q.mono λm c=>c.imp id λc=>⟨i,_,hi,c⟩,o,r.mono λm c=>c.imp id λc=>⟨i,_,hi,c⟩⟩
end
structure AX (u:U):Prop where
 walk:VO u
 nv:u.cR.length<=3000
 CE:∀(v:Nat) (b:Nat) (k:Nat) (b':Nat) (k':Nat),At u v b k->At u v b' k'->b=b'/\k=k'
 gz:∀(v:Nat) (b:Nat) (k:Nat),At u v b k->v<u.cR.length
 pre:∀(b:Nat) (B:Bk),u.blocks[b]? =some B->B.c8.length<=700/\∀p∈B.c8,p<u.blocks.length
 xI:∀(v b k:Nat) (x:Vl) (B:Bk),At u v b k->u.cR[v]? =some x->x.op=21->u.blocks[b]? =some B->x.args.length=B.c8.length
 args:∀(v:Nat) (x:Vl),u.cR[v]? =some x->x.args.length<=700
structure LR (u:U) (kp:Nat->Bool) (D:Nat->Prop) (xs:List (Vl×V)) (fa:Nat->Option (List Nat×V)):Prop where
 len:xs.length=u.cR.length
 out:∀i,u.cR.length<=i->fa i=none
 xI:∀(v b k:Nat) (x:Vl) (B:Bk),D v->At u v b k->u.cR[v]? =some x->x.op=21->u.blocks[b]? =some B->∃w,xs[v]? =some ({x with args:=jW u kp b B.c8 x.args},w)/\fa v=some (jW u kp b B.c8 x.args,w)
 same:∀(v:Nat) (x:Vl),u.cR[v]? =some x->¬(x.op=21/\D v)->∃w,xs[v]? =some (x,w)/\fa v=some (x.args,w)
structure Uw (D:Nat->Prop) (az iz:List Int):Prop where
 len:iz.length=az.length
 gone:∀(v:Nat),D v->v<az.length->iz[v]? =some (-1)
 same:∀(v:Nat),¬D v->iz[v]? =az[v]?
theorem LR.more{D D':Nat->Prop}{u:U}{kp:Nat->Bool}{xs:List (Vl×V)}{fa:Nat->Option (List Nat×V)}(c:LR u kp D xs fa)(h:∀v,D' v->D v\/∃x,u.cR[v]? =some x/\x.op≠21)(d:∀v,D v->D' v):LR u kp D' xs fa where
 len:=c.len
 out:=c.out
 xI v b k x B hD Hy hx XV hB:=by
  rcases h v hD with a|⟨y,a,e⟩
  ·exact c.xI v b k x B a Hy hx XV hB
  simp_all
 same v x hx hn:=c.same v x hx (by grind)
theorem LR.put{D:Nat->Prop}{u:U}{kp:Nat->Bool}{xs:List (Vl×V)}{fa:Nat->Option (List Nat×V)}(g:AX u)(c:LR u kp D xs fa){v b k:Nat}{x:Vl}{B:Bk}(d:At u v b k)(f:u.cR[v]? =some x)(h:x.op=21)(j:u.blocks[b]? =some B)(w:V) :
  LR u kp (λa=>D a\/a=v) (xs.set v ({x with args:=jW u kp b B.c8 x.args},w)) (up fa v (some (jW u kp b B.c8 x.args,w))) where
 len:=by rw[Hb];exact c.len
 out i hi:=by
  have:=(gL.1 f).1;rw[fL _ _ (by omega)];exact c.out i hi
 xI a b' k' y B' hD Tj hy hop' Yl:=by
  by_cases e:a=v
  ·subst e;obtain⟨rfl,rfl⟩:=g.CE _ _ _ _ _ d Tj;rw[f]at hy;cases hy;rw[j]at Yl;cases Yl;exact⟨w,HT (by rw[c.len];grind),im _ _ _⟩
  ·rw[CL (by omega),fL _ _ e];exact c.xI a b' k' y B' (hD.resolve_right e) Tj hy hop' Yl
 same a y hy hn:=by
  by_cases e:a=v
  ·simp_all
  ·rw[CL (by omega),fL _ _ e];exact c.same a y hy (by simp_all)
theorem Uw.congr{D D':Nat->Prop} {az iz:List Int}(c:Uw D az iz)(h:∀v,D v↔D' v):Uw D' az iz:=
 ⟨c.len,λv a=>c.gone v (by simp_all),λv a=>c.same v (by simp_all)⟩
theorem Uw.put{D:Nat->Prop} {az iz:List Int}(c:Uw D az iz)(v:Nat):Uw (λa=>D a\/a=v) az (iz.set v (-1)) where
 len:=by rw[Hb];exact c.len
 gone a ha hl:=by
  by_cases e:a=v
  ·subst e;exact HT (by rw[c.len];exact hl)
  ·rw[CL (by omega)];exact c.gone a (ha.resolve_right e) hl
 same a ha:=by
  rw[CL (by omega)];exact c.same a (by simp_all)
def xL(u:U)(kp:Nat->Bool)(c:Bool)(i j:Nat)(v:Nat):Prop:=(∃b k,b<i/\kp b=c/\At u v b k)\/∃k,k<j/\At u v i k
section
variable{F F':Nat->Prop}{h h':Hp}{cs ds:List Pc}{Q:dg}{u:U}
theorem cS.T6{ty:Nat}{xs:List Nat}{v q:V}(H:cS F h cs)(i:Nat)(hi:cs[i]? =some (cW eN ty xs v)){k x:Nat}(a:xs[k]? =some x){kd:IntKind}(hq:eX 1 v (.int kd (k:Nat))=some q):df q h=some (.I x):=by
 obtain⟨l,o,b,c⟩:=H.E2 i hi a kd
 simp_all
theorem cS.X4(H:cS F h cs)(i:Nat){l n:Nat}(hi:cs[i]? =some (cV l cT [.I n])):cS F h (cs.set i (cW eN cT [n] (.slice l 0 1))):=by
 have a:=H.ok i _ hi;exact H.swap hi (.inr ⟨l,_,rfl,a.2.1,a.2.2,a.1,⟨[.I n],[],rfl,rfl,trivial⟩,rfl⟩) λm e=>e.symm
theorem cS.RY{ι:Type} [DecidableEq ι] {ty:Nat}{f:ι->Option (List Nat×V)}{xs:List Nat}{v:V}(H:cS F h (cW eN ty xs v::cs))(n:Nat)(o:cs[n]? =some (dk ty f)){i:ι}(hi:f i=Option.none):cS F h (cs.set n (dk ty (up f i (some (xs,v))))):=by
 have h0:=H.ok 0 _ rfl;have p:=H.ok (n+1) _ o;have r:∀l,Loc v l->¬(dk ty f).ki l:=λl m=>H.zQ 0 (n+1) _ _ rfl o (by omega) l m;have t:∀l,(dk ty (up f i (some (xs,v)))).ki l->Loc v l\/(dk ty f).ki l:=by
  rintro l ⟨k,ys,w,hk,u⟩;by_cases e:k=i
  ·simp_all
  ·rw[fL _ _ e]at hk;exact .inr ⟨k,ys,w,hk,u⟩
 have y:∀j c,j≠n->cs[j]? =some c->∀l,(dk ty (up f i (some (xs,v)))).ki l->¬c.ki l:=λj c d hc l m=>(t l m).elim (H.zQ 0 (j+1) _ c rfl hc (by omega) l) (H.zQ (n+1) (j+1) _ c o hc (by omega) l);refine⟨H.fl,λj c hc=>?_,λj k a b z A B l m g=>?_⟩
 ·rcases yE hc with⟨_,rfl⟩|⟨_,q⟩
  ·refine ⟨λj ys w d=>?_,λj k ys w s x d hk o l m g=>?_⟩
   ·by_cases e:j=i
    ·subst e;rw[im]at d;cases d;exact h0
    ·rw[fL _ _ e]at d;exact p.1 j ys w d
   ·by_cases e:j=i
    ·subst e;rw[im]at d;cases d;rw[fL _ _ (by grind)]at hk;exact r l m ⟨k,s,x,hk,g⟩
    ·rw[fL _ _ e]at d;by_cases e':k=i
     ·subst e';rw[im]at hk;cases hk;exact r l g ⟨j,ys,w,d,m⟩
     ·rw[fL _ _ e']at hk;exact p.2 j k ys w s x d hk o l m g
  ·exact H.ok (j+1) c q
 ·rcases yE z with⟨C,rfl⟩|⟨C,p⟩
  ·grind
  ·rcases yE A with⟨D,rfl⟩|⟨_,q⟩
   ·grind
   ·exact H.zQ (j+1) (k+1) a b p q (by omega) l m g
theorem cS.OY{a b c d e f x y z:Pc}(H:cS F h (a::b::c::d::e::f::x::y::z::cs)):cS F h (d::a::f::x::y::z::cs):=
 H.re (λi=>match i with|0=>3|1=>0|n+2=>n+5) (by grind) (by grind)
theorem zi{α:Type}{l:List α}{i:Nat}{x:α}(h:l[i]? =some x):l.take (i+1)=l.take i++[x]:=by
 obtain⟨a,rfl⟩:=gL.1 h
 simp_all
theorem qW(p:Nat->Bool)(i:Nat):(List.range (i+1)).filter p=(List.range i).filter p++if p i=true then[i] else[]:=by
 rw[Wn,Xu,Wf];rfl
end
def JO(bs:List (Bk×V))(b:Nat):V:=match bs[b]? with
 |some x=>x.2
 |none=> .undef
def nJ(u:U)(kp:Nat->Bool)(b:Nat):Bk:={u.blocks.getD b HB with c8:=gN u kp b (u.blocks.getD b HB).c8}
section
variable{F F':Nat->Prop}{h h':Hp}{cs ds:List Pc}{Q:dg}{u:U}{wv wb ws gS:V}{lt ty:Nat}{az:List Int}{xs:List (Vl×V)}{bs:List (Bk×V)}{fa fn:Nat->Option (List Nat×V)}
theorem OB(g:AX u)(hc:Rt u.cR xs fa)(S:PT u.blocks bs fn)(cg:az.length=u.cR.length)(bw:ws.one=true)
  (H0:cS F h (cW sr dP xs wv::cW qe dm bs wb::dk cT fa::dk cT fn::cW eZ cT az gS::cV lt ty [.I u.func,.I u.pc,wv,wb,ws,gS]::cs))
  (H:∀F' h' seen post kp u' n aR d I iz aS,Sn F h F' h'->Bm u.blocks.length (next u) seen post []->kp=(λb=>post.reverse.contains b)->Cut u kp u'->Rt u'.cR n d->PT u'.blocks aR I->Ey u kp az iz->
   cS F' h' (cW sr dP n wv::cW qe dm aR aS::dk cT d::dk cT I::cW eZ cT iz gS::cV lt ty [.I u.func,.I u.pc,wv,aS,ws,gS]::cs)->Q (.tuple []) h') :
  cP CS jH [.ptr lt 0] h Q:=by
 refine Aj rfl rfl ?_;unfold tj;have nb:=g.walk.nb;have nv:=g.nv;have aT:bs.length=u.blocks.length:=by rw[<-S.fst,yn]
 have bx:xs.length=u.cR.length:=by rw[<-hc.fst,yn]
 have fz:∀{h:Hp} {cs:List Pc},dE 0 (.ptr lt 0)=some (.ptr lt 0):=rfl;refine cO (dq _ _) (cO (dB _ _ _) (oF (H0.ld 5 rfl rfl) (cO (H0.len 1 rfl) ?_)));rw[aT,hV (z:=V.bool false) rfl (by decide) (by omega),dC];obtain⟨H1,s1⟩:=H0.make (E:=eB) (ty:=fS) (y:=false) (u:=V.bool false) u.blocks.length rfl rfl;generalize h.new (.cells fS 1 true false (List.replicate u.blocks.length (V.bool false)))=r at*;generalize h.next=lk at*;refine cO (dq _ _) (cO (dB _ _ _) (cO (Vw H1 6 rfl) ?_));have ay:dU (uC u wv wb ws)=true:=by simp only[uC,cY,H1.one 1 rfl,H1.one 2 rfl,bw];rfl
 refine D2 g.walk H1.W2 ay (H1.Q6 2 4 rfl rfl S) λO vo seen post aC aU G=>?_;have H2:=H1.Ui aC aU;have bz:=s1.trans aC.back;clear aC aU ay fz s1 H1;have ae:∀b∈post.reverse,b<u.blocks.length:=λb S=>G.pre b (Ta.1 S);have bA:post.reverse.length<=u.blocks.length:=by
  have r:=G.nodup;rw[OG,GK]at r;rw[List.length_reverse];exact gq _ _ r G.pre
 generalize aV:post.reverse=M at H2 ae bA⊢;refine cO (H2.len 0 rfl) ?_
 refine xz (λk l h'=>∃(i:Nat) (kl:List Bool),l=[.ptr lt 0,.slice lk 0 u.blocks.length,vo,.I M.length,.I i]/\i+k=M.length/\kl.length=u.blocks.length/\(∀b,b<u.blocks.length->kl[b]? =some ((M.take i).contains b))/\Sn F h F h'/\
  cS F h' (cW eN cT M vo::cW eB fS kl (.slice lk 0 u.blocks.length)::cW sr dP xs wv::cW qe dm bs wb::dk cT fa::dk cT fn::cW eZ cT az gS::cV lt ty [.I u.func,.I u.pc,wv,wb,ws,gS]::cs)) ?_ (k:=M.length)
  (by grind)
 rintro k _ _ _ _ _ h3 ⟨i,kl,⟨⟩,hk,aW,T,s3,H3⟩;unfold pJ;by_cases hi:i<M.length
 ·refine dZ ?_;have f:=fg hi;have aD:M.take (i+1)=M.take i++[M[i]]:=LV hi;generalize M[i]=b at*;have bC:=ae b (zD f);obtain⟨l1,o1,x1,x2⟩:=H3.E2 0 rfl f .i64;obtain⟨l2,o2,h4,e1,e2,_,H4,s4⟩:=H3.D7 1 rfl (k:=b) (y:=true) (u:=V.bool true) (by omega) rfl rfl rfl;refine cO x1 (cO x2 (cO e1 ?_));rw[e2,cU];simp only[fY,jq]at H4;refine du ⟨k-1,by omega,i+1,kl.set b true,rfl,by omega,by simp[aW],λc aX=>?_,s3.trans s4,H4⟩
  grind
 refine fq ?_;obtain rfl:i=M.length:=by omega
 rw[E5]at T;clear hk k H2;have H3:=H3.tail;obtain⟨kp,aY⟩:∃kp:Nat->Bool,(λb=>M.contains b)=kp:=⟨_,rfl⟩
 have T:∀b,b<u.blocks.length->kl[b]? =some (kp b):=λb S=>by rw[T b S,<-aY]
 have aZ:kp=λb=>post.reverse.contains b:=by rw[aV,aY]
 have a4:dD (.slice lk 0 u.blocks.length)=some (.I u.blocks.length):=rfl;refine cO a4 ?_;rw[hV (z:=V.I 0) rfl (by decide) (by omega),dC];obtain⟨H4,s4⟩:=H3.make (E:=eN) (ty:=cT) (y:=0) (u:=V.I 0) u.blocks.length rfl rfl;generalize h3.new (.cells cT 1 true false (List.replicate u.blocks.length (V.I 0)))=h4 at*;generalize h3.next=ln at*;refine cO a4 ?_;have a5:=s3.trans s4;clear bz s3 s4 H3
 refine ye (λk l h'=>∃(i:Nat) (ns:List Nat),l=[.ptr lt 0,.slice lk 0 u.blocks.length,.slice ln 0 u.blocks.length,.I (((List.range i).filter kp).length:Nat),.slice lk 0 u.blocks.length,.I u.blocks.length,.I i]/\i+k=u.blocks.length/\ns.length=u.blocks.length/\(∀b,b<i->ns[b]? =some (fR kp b))/\(∀b,i<=b->b<u.blocks.length->ns[b]? =some 0)/\Sn F h F h'/\
  cS F h' (cW eN cT ns (.slice ln 0 u.blocks.length)::cW eB fS kl (.slice lk 0 u.blocks.length)::cW sr dP xs wv::cW qe dm bs wb::dk cT fa::dk cT fn::cW eZ cT az gS::cV lt ty [.I u.func,.I u.pc,wv,wb,ws,gS]::cs)) ?_ (k:=u.blocks.length)
  ⟨0,_,rfl,by omega,PU,λb S=>by omega,λb _ S=>by rw[Yr,if_pos S],a5,H4⟩
 clear a5 H4 H0;rintro k _ _ _ _ _ _ _ h3 ⟨i,ns,⟨⟩,hk,ag,an,ao,s3,H3⟩;unfold pZ;have a6:((List.range i).filter kp).length<=i:=by
  have:=QY kp (List.range i)
  rwa [Kc]at this
 by_cases hi:i<u.blocks.length
 ·refine dZ ?_;obtain⟨l1,o1,x1,x2⟩:=H3.EF 1 rfl (T i hi) .i64;refine cO x1 (cO x2 (fK ?_));have hr:((List.range (i+1)).filter kp).length=((List.range i).filter kp).length+(if kp i=true then 1 else 0):=by
   rw[Wn,Xu,Ht,Wf];split <;> rfl
  by_cases A:kp i=true
  ·refine ei A ?_;obtain⟨l2,o2,h4,e1,e2,_,H4,s4⟩:=H3.D7 0 rfl (k:=i) (y:=((List.range i).filter kp).length) (u:=V.I (((List.range i).filter kp).length:Nat)) (by omega) rfl rfl rfl;refine cO e1 ?_;rw[e2,cU];simp only[fY]at H4;refine du (oC ?_);unfold jK;rw[if_pos A]at hr;refine du ⟨k-1,by omega,i+1,ns.set i ((List.range i).filter kp).length,by rw[hr],by omega,by simp[ag],λb S=>?_,λb S aE=>?_,s3.trans s4,H4⟩
   ·by_cases e:b=i
    ·subst e;rw[HT (by omega)];unfold fR;rw[if_pos A]
    ·rw[CL λh=>e h.symm];exact an b (by omega)
   ·rw[CL (by omega)];exact ao b (by omega) aE
  ·refine dM A (oC ?_);unfold jK;rw[if_neg A,Vk]at hr;refine du ⟨k-1,by omega,i+1,ns,by rw[hr];rfl,by omega,ag,λb S=>?_,λb S aE=>ao b (by omega) aE,s3,H3⟩;by_cases e:b=i
   ·subst e;rw[ao b (iC _) hi];unfold fR;rw[if_neg A]
   ·exact an b (by omega)
 refine fq ?_;obtain rfl:i=u.blocks.length:=by omega
 clear hk k ao a6;refine cO (dq _ _) (cO (dB _ _ _) (oF (H3.ld 7 rfl rfl) (cO (H3.len 3 rfl) ?_)));rw[aT];have H3:cS F h3 (cW qe dm [] .cQ::cW eN cT ns (.slice ln 0 u.blocks.length)::cW eB fS kl (.slice lk 0 u.blocks.length)::cW sr dP xs wv::cW qe dm bs wb::dk cT fa::dk cT fn::cW eZ cT az gS::cV lt ty [.I u.func,.I u.pc,wv,wb,ws,gS]::cs):=H3.add .nil λ_ h=>h;have ag:∀b,b<u.blocks.length->ns[b]? =some (fR kp b):=an
 refine xH (λk l h'=>∃(F':Nat->Prop) (i:Nat) (n:List (Vl×V)) (d:Nat->Option (List Nat×V)) (iz:List Int) (X:V),l=[.ptr lt 0,.slice lk 0 u.blocks.length,.slice ln 0 u.blocks.length,X,wb,.I u.blocks.length,.I i]/\i+k=u.blocks.length/\Sn F h F' h'/\
  LR u kp (xL u kp true i 0) n d/\Uw (xL u kp false i 0) az iz/\
  cS F' h' (cW qe dm (((List.range i).filter kp).map λb=>(nJ u kp b,JO bs b)) X::cW eN cT ns (.slice ln 0 u.blocks.length)::cW eB fS kl (.slice lk 0 u.blocks.length)::cW sr dP n wv::cW qe dm bs wb::dk cT d::dk cT fn::cW eZ cT iz gS::cV lt ty [.I u.func,.I u.pc,wv,wb,ws,gS]::cs)) ?_ (k:=u.blocks.length)
  ⟨F,0,xs,fa,az,.cQ,rfl,by omega,s3,?_,?_,H3⟩
 rotate_left
 ·refine ⟨bx,λi hi=>hc.out i (by omega),λv b k x B hD=>?_,λv x f _=>?_⟩
  ·rcases hD with⟨_,_,h,_⟩|⟨_,h,_⟩ <;> omega
  ·rw[<-hc.fst,w5]at f
   cases hy:xs[v]? with
   |none=>rw[hy]at f;cases f
   | some y=>
     rw[hy]at f;cases f;exact⟨y.2,rfl,hc.row v y.1 y.2 hy⟩
 ·refine⟨rfl,λv hD=>?_,λv _=>rfl⟩;rcases hD with⟨_,_,h,_⟩|⟨_,h,_⟩ <;> omega
 clear H3 s3 hi an;rintro k _ _ _ X _ _ _ h4 ⟨K,i,n,d,iz,_,⟨⟩,hk,s4,D,aa,H4⟩;unfold pL;by_cases hi:i<u.blocks.length
 ·refine dZ ?_;obtain⟨⟨B,wn⟩,N⟩:∃y,bs[i]? =some y:=⟨_,fg (by omega)⟩
  have U:u.blocks[i]? =some B:=by rw[<-S.fst,w5,N];rfl
  have aF:JO bs i=wn:=by unfold JO;rw[N]
  obtain ⟨l1,o1,w1,x1,x2,⟨bv,bp,rfl,iv,ip,aG⟩,_⟩:=H4.RC 4 rfl N .i64;have x1:eX 6 wb (.I i)=some (.ptr l1 o1):=x1;have x2:eg 6 (.ptr l1 o1) h4=some (.agg (nV B bv wn bp)):=x2;refine cO x1 (cO x2 ?_);refine fo H4 rfl rfl (by simp only[nV,cY,iv.one,ip.one,aG];rfl) λh5 H5 s5=>?_;generalize h4.next=lb at*;have iv:=iv.since s5;have ip:=ip.since s5;clear x1 x2;obtain⟨l2,o2,y1,y2⟩:=H5.EF 3 rfl (T i hi) .i64;refine cO y1 (cO y2 (qI ?_));have a7:∀c v,xL u kp c (i+1) 0 v↔xL u kp c i 0 v\/(kp i=c/\∃k,At u v i k):=λc v=>by
   constructor
   ·rintro(⟨b,k,r,O,h3⟩|⟨k,r,_⟩)
    ·by_cases e:b=i
     ·subst e;exact .inr ⟨O,k,h3⟩
     ·exact .inl (.inl ⟨b,k,by omega,O,h3⟩)
    ·omega
   ·rintro((⟨b,k,r,O,h3⟩|⟨k,r,_⟩)|⟨r,k,O⟩)
    ·exact .inl ⟨b,k,by omega,O,h3⟩
    ·omega
    ·exact .inl ⟨i,k,by omega,r,O⟩
  have ap:∀c j w,B.cR[j]? =some w->∀v,xL u kp c i (j+1) v↔xL u kp c i j v\/v=w:=λc j w hw v=>by
   constructor
   ·rintro (r|⟨k,r,O⟩)
    ·exact .inl (.inl r)
    ·by_cases e:k=j
     ·subst e;obtain⟨B',e1,e2⟩:=O
      simp_all
     ·exact .inl (.inr ⟨k,by omega,O⟩)
   ·rintro((r|⟨k,r,O⟩)|rfl)
    ·exact .inl r
    ·exact .inr ⟨k,by omega,O⟩
    ·exact .inr ⟨j,by omega,B,U,hw⟩
  have aH:∀c,kp i=c->∀v,xL u kp c i B.cR.length v↔xL u kp c (i+1) 0 v:=λc bD v=>by
   rw[a7];constructor
   ·rintro(r|⟨k,r,O⟩)
    ·exact .inl (.inl r)
    ·exact .inr ⟨bD,k,O⟩
   ·rintro((r|⟨k,r,_⟩)|⟨_,k,B',e1,e2⟩)
    ·exact .inl r
    ·omega
    ·rw[U]at e1;cases e1;exact .inr ⟨k,(gL.1 e2).1,B,U,e2⟩
  have cd:B.cR.length<=u.cR.length:=by
   refine gq u.cR.length B.cR ?_ λv hv=>?_
   ·rw[List.nodup_iff_pairwise_ne,V7];intro a b ha S ci e;have:=(g.CE B.cR[a] i a i b ⟨B,U,fg ha⟩ ⟨B,U,by rw[e];exact fg S⟩).2;omega
   ·obtain⟨k,hk⟩:=kh.1 hv;exact g.gz v i k ⟨B,U,hk⟩
  by_cases A:kp i=true
  ·refine ei A ?_;have bE:=g.pre i B U;have aI:u.blocks.getD i HB=B:=by rw[Au,U];rfl
   refine oF (H5.ld 0 rfl rfl) (cO ip.len ?_);obtain⟨c,aJ⟩:∃c:Nat->Bool,(λj=>kp (B.c8.getD j 0)&&(next u (B.c8.getD j 0)).contains i)=c:=⟨_,rfl⟩
   have aK:(List.range B.c8.length).filter c=m0 u kp i B.c8:=by rw[<-aJ];rfl
   have H5:=(H5.add (p:=cW eN cT [] .cQ) .nil λ_ h=>h).add (p:=cW eN cT [] .cQ) .nil λ_ h=>h
   refine xC (λk' l h'=>∃(j:Nat) (W s:V),l=[.ptr lt 0,.slice lk 0 u.blocks.length,.slice ln 0 u.blocks.length,X,.I i,.ptr lb 0,W,s,wb,.I u.blocks.length,.I i,bp,.I B.c8.length,.I j]/\j+k' = B.c8.length/\Sn F h K h'/\Sn K h5 K h'/\
    cS K h' (cW eN cT (((List.range j).filter c).map λj=>fR kp (B.c8.getD j 0)) s::cW eN cT ((List.range j).filter c) W::cV lb 41 (nV B bv wn bp)::cW qe dm (((List.range i).filter kp).map λb=>(nJ u kp b,JO bs b)) X::cW eN cT ns (.slice ln 0 u.blocks.length)::cW eB fS kl (.slice lk 0 u.blocks.length)::cW sr dP n wv::cW qe dm bs wb::dk cT d::dk cT fn::cW eZ cT iz gS::cV lt ty [.I u.func,.I u.pc,wv,wb,ws,gS]::cs)) ?_ (k:=B.c8.length)
    ⟨0,.cQ,.cQ,rfl,by omega,s4.trans s5,Sn.refl _ _,H5⟩
   clear H5 H4;rintro k' _ _ _ _ _ _ W s _ _ _ _ _ _ h6 ⟨j,_,_,⟨⟩,ai,s6,ab,R⟩;unfold pX;have aX:((List.range j).filter c).length<=j:=by
    have:=QY c (List.range j)
    rwa [Kc]at this
   by_cases hj:j<B.c8.length
   ·refine dZ ?_;have f:=fg hj;have aq:=bE.2 B.c8[j] (ym hj);have a8:B.c8.getD j 0=B.c8[j]:=by rw[Au,f];rfl
    generalize B.c8[j]=p at*;obtain⟨l1,o1,_,x1,x2⟩:=(ip.since ab).nat f .i64;obtain⟨l2,o2,y1,y2⟩:=R.EF 5 rfl (T p aq) .i64;refine cO x1 (cO x2 (cO y1 (cO y2 ?_)));have a9:=qW c j;have ar:c j=(kp p&&(next u p).contains i):=by rw[<-aJ];simp only[a8]
    cases hkp':kp p with
    | false=>
      refine er (er (er (er (er (er (er (er (er (er (Aa ?_))))))))));refine cO (show js (.bool false) .undef (.bool false)=some (.bool false) from rfl) (fK (dM (by decide) (jS ?_)));unfold ig;refine sc (m:=1) (by omega) (by omega) ⟨k'-1,by omega,j+1,W,s,rfl,by omega,s6,ab,?_⟩;rw[a9,show c j=false by rw[ar,hkp'];rfl]
      simpa using R
    | true=>
      obtain⟨⟨P,wp⟩,aL⟩:∃y,bs[p]? =some y:=⟨_,fg (by omega)⟩
      have hP:u.blocks[p]? =some P:=by rw[<-S.fst,w5,aL];rfl
      have bG:next u p=P.next:=by unfold next;rw[hP]
      obtain⟨l3,o3,w3,z1,_,⟨pv,pp,rfl,_,_,_⟩,z2⟩:=R.RC 7 rfl aL .i64;have z1:eX 6 wb (.I (p:Nat))=some (.ptr l3 o3):=z1;have z3:=z2 3 wp rfl;refine dV (cO rfl (dV (cO (dq _ _) (dV (cO (dB _ _ _) (dV (cO (dB _ _ _) (dV (cO (R.ld 11 rfl rfl) (dV (cO rfl (dV (cO z1 (dV (cO (dB _ _ _) (dV (cO z3 (dV (cO rfl (xN ?_))))))))))))))))))));refine Ve (R.rows 9 rfl (S.row p P wp aL)).read (by have:=g.walk.two p P hP;omega) i ?_;rw[<-bG];refine cO (by rfl) (fK ?_);rw[hkp',Sv]at ar;by_cases aj:(next u p).contains i=true
      ·refine ei aj ?_
       rw[aj]at ar;rw[kH,fQ];obtain⟨Y,s7⟩:=R.vW cT (fi [j]);have Y:cS K (h6.new (.cells 3 1 true false (fi [j]))) (cV h6.next 3 (fi [j])::_):=Y;have s7:Sn K h6 K (h6.new (.cells 3 1 true false (fi [j]))):=s7;generalize h6.new (.cells 3 1 true false (fi [j]))=h7 at*;generalize h6.next=r1 at*;obtain⟨l4,o4,n1,n2⟩:=Y.E2 5 rfl (ag p aq) .i64;refine cO n1 (cO n2 ?_);rw[kH,fQ];obtain⟨J,s8⟩:=Y.vW cT (fi [fR kp p]);have J:cS K (h7.new (.cells 3 1 true false (fi [fR kp p]))) (cV h7.next 3 (fi [fR kp p])::cV r1 3 (fi [j])::_):=J;have s8:Sn K h7 K (h7.new (.cells 3 1 true false (fi [fR kp p]))):=s8;generalize h7.new (.cells 3 1 true false (fi [fR kp p]))=h8 at*;generalize h7.next=r2 at*;refine⟨⟨J.get 0 rfl,bq⟩,J.T6 6 rfl (ag p aq) n1,⟨J.get 1 rfl,bq⟩,?_⟩;have J:=J.X4 1 rfl;simp only[fY,jq]at J;obtain⟨va,h9,e9,n9,Z,s9⟩:=J.VS 3 1 rfl rfl (ic:=8) (by decide) (by decide) (by simp;omega);have ak:c9 3 1 8 W (.slice r1 0 1) h8=some (.val va h9):=e9;simp only[fY,jq]at Z;rw[ak,cU];refine⟨n9,⟨Z.get 0 rfl,bq⟩,Z.T6 6 rfl (ag p aq) n1,?_⟩;have Z:=Z.X4 0 rfl;simp only[fY]at Z;obtain⟨vc,bH,bI,bJ,al,bK⟩:=Z.VS 2 0 rfl rfl (ic:=8) (by decide) (by decide) (by simp;omega);have ba:c9 3 1 8 s (.slice r2 0 1) h9=some (.val vc bH):=bI;rw[ba,cU];simp only[fY,jq]at al;refine⟨bJ,jS ?_⟩;unfold ig;have sA:=((s7.trans s8).trans s9).trans bK;refine sc (m:=1) (by omega) (by omega) ⟨k'-1,by omega,j+1,va,vc,rfl,by omega,s6.trans sA,ab.trans sA,?_⟩;rw[a9,ar,if_pos rfl,LX,PR,OG,a8];exact al.tail.tail
      ·refine dM aj (jS ?_)
       unfold ig;refine sc (m:=1) (by omega) (by omega) ⟨k'-1,by omega,j+1,W,s,rfl,by omega,s6,ab,?_⟩
       simp_all
   refine fq ?_;obtain rfl:j=B.c8.length:=by omega
   rw[aK]at R;have cj:(m0 u kp i B.c8).length<=700:=by rw[<-aK];omega
   have bL:∀m∈m0 u kp i B.c8,m<B.c8.length:=λm hm=>by
    unfold m0 at hm;exact Mv.1 (DG.1 hm).1
   have bb:(m0 u kp i B.c8).map (λj=>fR kp (B.c8.getD j 0))=gN u kp i B.c8:=rfl;rw[bb]at R;clear ai k' aX hj aK aJ c bb;refine oF (R.ld 2 rfl rfl) (cO iv.len ?_);have bc:=iv.since ab;clear iv ip ab
   refine xq (λk' l h'=>∃(j:Nat) (n:List (Vl×V)) (d:Nat->Option (List Nat×V)),l=[.ptr lt 0,.slice lk 0 u.blocks.length,.slice ln 0 u.blocks.length,X,.ptr lb 0,W,s,wb,.I u.blocks.length,.I i,bv,.I B.cR.length,.I j]/\j+k' = B.cR.length/\Sn F h K h'/\Sn K h6 K h'/\LR u kp (xL u kp true i j) n d/\
    cS K h' (cW eN cT (gN u kp i B.c8) s::cW eN cT (m0 u kp i B.c8) W::cV lb 41 (nV B bv wn bp)::cW qe dm (((List.range i).filter kp).map λb=>(nJ u kp b,JO bs b)) X::cW eN cT ns (.slice ln 0 u.blocks.length)::cW eB fS kl (.slice lk 0 u.blocks.length)::cW sr dP n wv::cW qe dm bs wb::dk cT d::dk cT fn::cW eZ cT iz gS::cV lt ty [.I u.func,.I u.pc,wv,wb,ws,gS]::cs)) ?_ (k:=B.cR.length)
    ⟨0,n,d,rfl,by omega,s6,Sn.refl _ _,D,R⟩
   clear R s6 D;rintro k' _ _ _ _ _ _ _ _ _ _ _ _ _ h7 ⟨j,n,d,⟨⟩,ai,s7,au,D,Y⟩;unfold p8;by_cases hj:j<B.cR.length
   ·refine dZ ?_;have f:=fg hj;generalize B.cR[j]=v at*;have L:At u v i j:=⟨B,U,f⟩
    have aw:=g.gz v i j L;obtain⟨l1,o1,_,x1,x2⟩:=(bc.since au).nat f .i64;obtain⟨x,ax⟩:∃x,u.cR[v]? =some x:=⟨_,fg aw⟩
    have bQ:¬xL u kp true i j v:=by
     rintro(⟨b,k,r,_,O⟩|⟨k,r,O⟩)
     ·have:=(g.CE _ _ _ _ _ O L).1;omega
     ·have:=(g.CE _ _ _ _ _ O L).2;omega
    obtain⟨w,aM,bR⟩:=D.same v x ax λh=>bQ h.2;obtain⟨lv,ov,wl,y1,_,⟨rfl,w1⟩,y2⟩:=Y.RC 6 rfl aM .i64;have y1:eX 6 wv (.I v)=some (.ptr lv ov):=y1;refine cO x1 (cO x2 (cO (dq _ _) (cO (dB _ _ _) (oF (Y.ld 11 rfl rfl) (cO y1 (oN (y2 0 _ rfl) (eh ?_)))))));by_cases ae:x.op=21
    ·refine ei (by show(x.op:Int)=21;omega) (cO (Y.len 1 rfl) ?_);have bS:=g.args v x ax;have ce:=g.xI v i j x B L ax ae U;have J:=Y.add (p:=cW eN cT [] .cQ) .nil λ_ h=>h
     refine xy (λaN l h'=>∃(m:Nat) (vr:V),l=[.ptr lt 0,.slice lk 0 u.blocks.length,.slice ln 0 u.blocks.length,X,.ptr lb 0,W,s,.ptr lv ov,vr,wb,.I u.blocks.length,.I i,bv,.I B.cR.length,.I j,W,.I ((m0 u kp i B.c8).length:Nat),.I m]/\m+aN=(m0 u kp i B.c8).length/\Sn K h7 K h'/\
      cS K h' (cW eN cT (((m0 u kp i B.c8).take m).map λj=>x.args.getD j 0) vr::cW eN cT (gN u kp i B.c8) s::cW eN cT (m0 u kp i B.c8) W::cV lb 41 (nV B bv wn bp)::cW qe dm (((List.range i).filter kp).map λb=>(nJ u kp b,JO bs b)) X::cW eN cT ns (.slice ln 0 u.blocks.length)::cW eB fS kl (.slice lk 0 u.blocks.length)::cW sr dP n wv::cW qe dm bs wb::dk cT d::dk cT fn::cW eZ cT iz gS::cV lt ty [.I u.func,.I u.pc,wv,wb,ws,gS]::cs)) ?_ (k:=(m0 u kp i B.c8).length)
      ⟨0,.cQ,rfl,by omega,Sn.refl _ _,J⟩
     clear J Y y2;rintro aN _ _ _ _ _ _ _ _ vr _ _ _ _ _ _ _ _ _ h8 ⟨m,_,⟨⟩,cf,aO,J⟩;unfold p7;obtain⟨bd,be,wl,y3,_,⟨rfl,_⟩,y4⟩:=J.RC 7 rfl aM .i64;have y3:eX 6 wv (.I v)=some (.ptr bd be):=y3;rw[y1]at y3;obtain⟨rfl,rfl⟩:lv=bd/\ov=be:=by cases y3;exact⟨rfl,rfl⟩
     clear y3;by_cases hm:m<(m0 u kp i B.c8).length
     ·refine dZ ?_;have hq:=fg hm;have aD:=zi hq;have cl:=bL _ (ym hm);generalize (m0 u kp i B.c8)[m]=q at*;obtain⟨l2,o2,z1,z2⟩:=J.E2 2 rfl hq .i64;have ha:=fg (show q<x.args.length by omega);have bU:x.args.getD q 0=x.args[q]:=by rw[Au,ha];rfl
      generalize x.args[q]=a at*;obtain⟨l3,o3,_,z3,z4⟩:=(J.rows 9 rfl bR).read.nat ha .i64;refine cO z1 (cO z2 (oN (y4 4 _ rfl) (cO z3 (cO z4 ?_))));rw[kH,dC];obtain⟨va,h9,e9,_,Z,s9⟩:=J.Cq 0 rfl (ic:=8) (wF:=3) (y:=a) (w:=fi [a]) (ro:=false) rfl (by decide) (by decide) (by simp;omega);have ak:c9 3 1 8 vr (.slice h8.next 0 1) (h8.new (.cells 3 1 true false (fi [a])))=some (.val va h9):=e9;rw[ak,cU];simp only[fY]at Z;refine du ⟨aN-1,by omega,m+1,va,rfl,by omega,aO.trans s9,?_⟩;rw[aD,LX,PR,OG,bU];exact Z
     refine fq ?_;obtain rfl:m=(m0 u kp i B.c8).length:=by omega
     rw [E5]at J;have J:cS K h8 (cW eN cT (jW u kp i B.c8 x.args) vr::_):=J;have bf:=J.one 0 rfl;have aA:=gL.1 aM;obtain⟨lq,h9,e1,e2,_,Z,s9⟩:=J.YV 7 rfl (k:=v) (j:=4) (y:=({x with args:=jW u kp i B.c8 x.args},vr)) (a:=vr) aA.1 (by decide) bf (λw' hw=>by
      rw[aA.2]at hw;obtain⟨rfl,_⟩:=hw;exact⟨rfl,bf⟩)
     have e1:eX 6 wv (.I v)=some (.ptr lq (v*6)):=e1;rw[y1]at e1;obtain⟨rfl,rfl⟩:lv=lq/\ov=v*6:=by cases e1;exact⟨rfl,rfl⟩
     have e2:fk 1 (.ptr lv (v*6+4)) vr h8=some (.val .undef h9):=e2;refine cO (dq _ _) (cO (dB _ _ _) ?_);rw[e2,cU];simp only[fY,jq]at Z;have al:=Z.Lt 9 rfl (up d v Option.none) id (by grind[im,fL]) (λ_ _ _ _ _ _ e=>e);simp only[fY,jq]at al;have aP:=al.RY 8 rfl (i:=v) (im _ _ _);simp only[fY,jq]at aP;have bg:up (up d v Option.none) v (some (jW u kp i B.c8 x.args,vr))=up d v (some (jW u kp i B.c8 x.args,vr)):=funext (by grind[im,fL]);rw[bg]at aP;refine oE ?_;unfold jN;have c2:=D.put g L ax ae U vr;refine du ⟨k'-1,by omega,j+1,_,_,rfl,by omega,(s7.trans aO).trans s9,(au.trans aO).trans s9,?_,aP⟩;exact c2.more (λa ha=> .inl ((ap true j v f a).1 ha)) λa ha=>(ap true j v f a).2 ha
    ·refine dM (by show ¬(x.op:Int)=21;omega) (oE ?_);unfold jN;refine du ⟨k'-1,by omega,j+1,n,d,rfl,by omega,s7,au,D.more (λa ha=>?_) (λa ha=>(ap true j v f a).2 (.inl ha)),Y⟩
     grind
   refine fq ?_;obtain rfl:j=B.cR.length:=by omega
   clear ai k' hj;have bV:=bc.since au;obtain⟨J,s8,rp⟩:=Y.gh 0 rfl;simp only[fY]at J;have bW:=bV.since s8;generalize (λl=>K l\/Loc s l)=F8 at*;have J:=J.tail.tail;obtain⟨h9,e9,_,Z,s9⟩:=J.st 0 (o:=4) (u:=s) rfl (by simp[nV]) rp.one;refine cO (dB _ _ _) ?_;have ak:fk 1 (.ptr lb (0+4)) s h7=some (.val .undef h9):=by rw[yD];exact e9
   rw[ak,cU];simp only[fY]at Z;have bh:nJ u kp i = {B with c8:=gN u kp i B.c8}:=by unfold nJ;rw[aI]
   have aj:(nV B bv wn bp).set 4 s=nV (nJ u kp i) bv wn s:=by rw[bh];rfl
   rw [aj]at Z;have bi:=bW.since s9;have bj:=rp.since s9;refine cO (Z.zt 0 rfl rfl) ?_;have Z:=Z.tail;rw[qv (sz:=6) (w:=nV (nJ u kp i) bv wn s) rfl rfl (by simp only[nV,cY,bi.one,aG,bj.one];rfl),dC];have cm:((List.range i).filter kp).length<=i:=by
    have:=QY kp (List.range i)
    rwa [Kc]at this
   obtain⟨bm,hA,eA,_,HA,sA⟩:=Z.Cq 0 rfl (ic:=96) (wF:=41) (y:=(nJ u kp i,wn)) (w:=nV (nJ u kp i) bv wn s) (ro:=false) (by rw[bh];exact⟨bv,s,rfl,bi,bj,aG⟩) (by decide) (by decide) (by simp;omega);have bX:c9 41 6 96 X (.slice h9.next 0 1) (h9.new (.cells 41 6 true false (nV (nJ u kp i) bv wn s)))=some (.val bm hA):=eA;rw[bX,cU];simp only[fY]at HA;refine nY ?_;unfold jL;refine du ⟨k-1,by omega,F8,i+1,n,d,iz,bm,rfl,by omega,((s7.trans s8).trans s9).trans sA,?_,?_,?_⟩
   ·exact D.more (λv r=> .inl ((aH true A v).2 r)) λv r=>(aH true A v).1 r
   ·refine aa.congr λv=>?_
    simp_all
   ·rw[qW,A,if_pos rfl,LX,PR,OG,aF];exact HA
  ·refine dM A ?_;have A:kp i=false:=Vu.2 A;refine oF (H5.ld 0 rfl rfl) (cO iv.len ?_);have H5:=H5.tail
   refine xW (λk' l h'=>∃(j:Nat) (iz:List Int),l=[.ptr lt 0,.slice lk 0 u.blocks.length,.slice ln 0 u.blocks.length,X,wb,.I u.blocks.length,.I i,bv,.I B.cR.length,.I j]/\j+k' = B.cR.length/\Sn F h K h'/\Sn K h5 K h'/\Uw (xL u kp false i j) az iz/\
    cS K h' (cW qe dm (((List.range i).filter kp).map λb=>(nJ u kp b,JO bs b)) X::cW eN cT ns (.slice ln 0 u.blocks.length)::cW eB fS kl (.slice lk 0 u.blocks.length)::cW sr dP n wv::cW qe dm bs wb::dk cT d::dk cT fn::cW eZ cT iz gS::cV lt ty [.I u.func,.I u.pc,wv,wb,ws,gS]::cs)) ?_ (k:=B.cR.length)
    ⟨0,iz,rfl,by omega,s4.trans s5,Sn.refl _ _,aa,H5⟩
   clear H5 H4;rintro k' _ _ _ X _ _ _ _ _ _ h6 ⟨j,iz,⟨⟩,ai,s6,ab,aa,R⟩;unfold pT;by_cases hj:j<B.cR.length
   ·refine dZ ?_;have f:=fg hj;generalize B.cR[j]=v at*;have aw:=g.gz v i j ⟨B,U,f⟩;obtain⟨l1,o1,_,x1,x2⟩:=(iv.since ab).nat f .i64;refine cO x1 (cO x2 (oN (R.ld 8 rfl rfl) ?_));obtain⟨l2,o2,h7,e1,e2,_,Y,s7⟩:=R.D7 7 rfl (k:=v) (y:=(-1:Int)) (u:=V.I (-1)) (by rw[aa.len];omega) rfl rfl rfl;refine cO e1 ?_;rw[e2,cU];simp only[fY,jq]at Y;exact du ⟨k'-1,by omega,j+1,iz.set v (-1),rfl,by omega,s6.trans s7,ab.trans s7,(aa.put v).congr λa=>(ap false j v f a).symm,Y⟩
   refine fq (nY ?_);unfold jL;obtain rfl:j=B.cR.length:=by omega
   refine du ⟨k-1,by omega,K,i+1,n,d,iz,_,rfl,by omega,s6,?_,aa.congr (aH false A),?_⟩
   ·refine D.more (λv r=> .inl ?_) λv r=>(a7 true v).2 (.inl r)
    simp_all
   ·rw[qW,A];simpa using R
 refine fq ?_;obtain rfl:i=u.blocks.length:=by omega
 clear hk k hi;have aW:(iF u kp).length<=u.blocks.length:=by
  have:=QY kp (List.range u.blocks.length)
  rwa [Kc]at this
 rw[show(List.range u.blocks.length).filter kp=iF u kp from rfl]at H4;refine cO (H4.len 0 rfl) ?_;rw[yn];have cn:(iF u kp).Nodup:=UF.filter _;have bn:∀b∈iF u kp,b<u.blocks.length:=λb S=>Mv.1 (DG.1 S).1
 refine xG (λk l h'=>∃(i:Nat) (I:Nat->Option (List Nat×V)),l=[.ptr lt 0,.slice ln 0 u.blocks.length,X,.I ((iF u kp).length:Nat),.I i]/\i+k=(iF u kp).length/\Sn F h K h'/\
  (∀b B w,bs[b]? =some (B,w)->I b=some (if b∈(iF u kp).take i then B.next.map (fR kp) else B.next,w))/\
  cS K h' (cW qe dm ((iF u kp).map λb=>(nJ u kp b,JO bs b)) X::cW eN cT ns (.slice ln 0 u.blocks.length)::cW eB fS kl (.slice lk 0 u.blocks.length)::cW sr dP n wv::cW qe dm bs wb::dk cT d::dk cT I::cW eZ cT iz gS::cV lt ty [.I u.func,.I u.pc,wv,wb,ws,gS]::cs)) ?_ (k:=(iF u kp).length)
  ⟨0,fn,rfl,by omega,s4,λb B w bY=>by rw[S.row b B w bY];simp,H4⟩
 clear H4 s4;rintro k _ _ _ _ _ h5 ⟨i,I,⟨⟩,hk,s5,ah,H5⟩;unfold pB;by_cases hi:i<(iF u kp).length
 ·refine dZ ?_;have f:=fg hi;have aD:=zi f;have bC:=bn _ (ym hi);have bZ:(iF u kp)[i] ∉ (iF u kp).take i:=by grind[kh,gL,JQ,X2,my]
  generalize (iF u kp)[i]=b at*;obtain⟨⟨B,wn⟩,N⟩:∃y,bs[b]? =some y:=⟨_,fg (by omega)⟩
  have U:u.blocks[b]? =some B:=by rw[<-S.fst,w5,N];rfl
  have aF:JO bs b=wn:=by unfold JO;rw[N]
  have bo:((iF u kp).map λb=>(nJ u kp b,JO bs b))[i]? =some (nJ u kp b,wn):=by rw[w5,f,<-aF];rfl
  have co:=g.walk.two b B U;have b4:∀t∈B.next,t<u.blocks.length:=λt ht=>g.walk.nx b t (by unfold next;rw[U];exact ht);have ac:=ah b B wn N;rw[if_neg bZ]at ac;obtain⟨lo,oo,w1,z1,_,⟨pv,pp,rfl,_,_,_⟩,z2⟩:=H5.RC 0 rfl bo .i64;have z1:eX 6 X (.I i)=some (.ptr lo oo):=z1;have z3:=z2 3 wn rfl;refine cO z1 (oF z3 (cO (H5.rows 6 rfl ac).len ?_))
  refine xx (λk' l h'=>∃(j:Nat) (I:Nat->Option (List Nat×V)),l=[.ptr lt 0,.slice ln 0 u.blocks.length,X,.I i,.I ((iF u kp).length:Nat),.I i,wn,.I B.next.length,.I j]/\j+k' = B.next.length/\Sn F h K h'/\
   (∀c B w,c≠b->bs[c]? =some (B,w)->I c=some (if c∈(iF u kp).take i then B.next.map (fR kp) else B.next,w))/\I b=some ((B.next.take j).map (fR kp)++B.next.drop j,wn)/\
   cS K h' (cW qe dm ((iF u kp).map λb=>(nJ u kp b,JO bs b)) X::cW eN cT ns (.slice ln 0 u.blocks.length)::cW eB fS kl (.slice lk 0 u.blocks.length)::cW sr dP n wv::cW qe dm bs wb::dk cT d::dk cT I::cW eZ cT iz gS::cV lt ty [.I u.func,.I u.pc,wv,wb,ws,gS]::cs)) ?_ (k:=B.next.length)
   ⟨0,I,rfl,by omega,s5,λc B w _ hc=>ah c B w hc,ac,H5⟩
  clear H5 s5 z2 z3 ac ah;rintro k' _ _ _ _ _ _ _ _ _ h6 ⟨j,I,⟨⟩,ai,s6,ah,ac,R⟩;unfold pU;obtain⟨b5,b6,w1,z4,_,⟨pv,pp,rfl,_,_,_⟩,z2⟩:=R.RC 0 rfl bo .i64;have z4:eX 6 X (.I i)=some (.ptr b5 b6):=z4;have z3:=z2 3 wn rfl;by_cases hj:j<B.next.length
  ·refine dZ ?_;have hn:=fg hj;have aB:((B.next.take j).map (fR kp)++B.next.drop j)[j]? =some B.next[j]:=by
    rw[Se (by simp;omega)];simp[JQ,Wb (Nat.le_of_lt hj)]
   have br:((B.next.take j).map (fR kp)++B.next.drop j).set j (fR kp B.next[j])=(B.next.take (j+1)).map (fR kp)++B.next.drop (j+1):=by
    have hL:((B.next.take j).map (fR kp)).length=j:=by rw[yn,JQ];omega
    rw[zi hn,LX,Hq,SE hj,List.set_append_right _ _ (by omega),hL,Nat.sub_self];rfl
   have aQ:j<((B.next.take j).map (fR kp)++B.next.drop j).length:=(gL.1 aB).1;have b7:=b4 _ (ym hj);generalize B.next[j]=t at*;obtain⟨l1,o1,_,x1,x2⟩:=(R.rows 6 rfl ac).read.nat aB .i64;obtain⟨l2,o2,y1,y2⟩:=R.E2 1 rfl (ag t b7) .i64;obtain⟨l3,o3,h7,e1,e2,n7,Y,s7⟩:=R.RU 6 rfl ac aQ (fR kp t);refine cO x1 (cO x2 (cO z4 (oF z3 (cO y1 (cO y2 (cO e1 ?_))))));rw[e2,cU];simp only[fY,jq]at Y;refine⟨n7,du ⟨k'-1,by omega,j+1,_,rfl,by omega,s6.trans s7,λc C w bt hc=>?_,?_,Y⟩⟩
   ·rw[fL _ _ bt];exact ah c C w bt hc
   ·rw[im,br]
  refine fq ?_;obtain rfl:j=B.next.length:=by omega
  rw[E5,List.drop_length,GK]at ac;refine du ⟨k-1,by omega,i+1,I,rfl,by omega,s6,λc C w hc=>?_,R⟩
  grind
 refine fq ?_;obtain rfl:i=(iF u kp).length:=by omega
 rw [E5]at ah;clear hk k hi;obtain⟨h6,e6,_,R,s6⟩:=H5.st 8 (o:=3) (u:=X) rfl (by simp) (H5.one 0 rfl);refine cO (dq _ _) (cO (dB _ _ _) (cO (dB _ _ _) ?_));have b8:fk 1 (.ptr lt (0+0+3)) X h5=some (.val .undef h6):=e6;rw[b8,cU];simp only[fY,jq]at R;have b9:∀b,b∈iF u kp->∃B,u.blocks[b]? =some B/\bs[b]? =some (B,JO bs b)/\u.blocks.getD b HB=B:=λb ca=>by
  obtain⟨⟨B,w⟩,N⟩:∃y,bs[b]? =some y:=⟨_,fg (by have:=bn b ca;omega)⟩
  have U:u.blocks[b]? =some B:=by rw[<-S.fst,w5,N];rfl
  exact⟨B,U,by unfold JO;rw[N],by rw[Au,U];rfl⟩
 have Y:=R.PA (E':=qe) (ys:=(iF u kp).map λb=>(ze u kp b,JO bs b)) 0 rfl rfl (by simp) λk x y ws f hy hr=>by
  rw[w5]at f hy
  cases hkk:(iF u kp)[k]? with
  |none=>rw[hkk]at f;cases f
  | some b=>
    rw[hkk]at f hy;cases f;cases hy;exact hr
 simp only[fY]at Y;obtain⟨am,bu⟩:∃am:Nat->Option (List Nat×V),∀k,am k=match (iF u kp)[k]? with|some b=>I b|none=>Option.none:=⟨_,λ_=>rfl⟩
 have cb:∀{k b:Nat},(iF u kp)[k]? =some b->am k=I b:=λhk=>by rw[bu,hk]
 have J:=Y.Lt 6 rfl am (λk=>(iF u kp).getD k 0) (by grind) (by grind[iF,my]);simp only[fY,jq]at J;have hU:∀c v,xL u kp c u.blocks.length 0 v↔∃b k,At u v b k/\kp b=c:=λc v=>by
  constructor
  ·rintro(⟨b,k,_,h3,h4⟩|⟨k,h3,_⟩)
   ·exact⟨b,k,h4,h3⟩
   ·omega
  ·rintro⟨b,k,h4,h3⟩;exact .inl ⟨b,k,(let⟨_,h,_⟩:=h4;(gL.1 h).1),h3,h4⟩
 refine H K h6 seen post kp ⟨u.func,u.pc,n.map Prod.fst,(iF u kp).map (ze u kp),u.cZ⟩ n ((iF u kp).map λb=>(ze u kp b,JO bs b)) d am iz X (s5.trans s6) G aZ ⟨rfl,rfl,rfl,rfl,by rw[yn,D.len],λv b k x B L f ae T U=>?_,λv x f hn=>?_⟩ ⟨rfl,λv x w f=>?_,λv hv=>D.out v (by rw[D.len]at hv;exact hv)⟩ ⟨by rw[List.map_map];rfl,λk B w f=>?_,λk hk=>?_⟩ ⟨aa.len,λv b k L T hv=>aa.gone v ((hU false v).2 ⟨b,k,L,T⟩) hv,λv hn=>aa.same v λhD=>hn ((hU false v).1 hD)⟩ J.OY
 ·obtain⟨w,r,_⟩:=D.xI v b k x B ((hU true v).2 ⟨b,k,L,T⟩) L f ae U;rw[w5,r];rfl
 ·obtain⟨w,r,_⟩:=D.same v x f λ⟨r,O⟩=>hn ⟨r,(hU true v).1 O⟩;rw[w5,r];rfl
 ·have aw:v<u.cR.length:=by rw[<-D.len];exact(gL.1 f).1
  have hy:=fg aw;generalize u.cR[v]=y at*;by_cases hD:y.op=21/\xL u kp true u.blocks.length 0 v
  ·obtain⟨b,k,L,T⟩:=(hU true v).1 hD.2;obtain⟨B,U,cp⟩:=id L;obtain⟨w',r,O⟩:=D.xI v b k y B hD.2 L hy hD.1 U;rw[f]at r;cases r;exact O
  ·obtain⟨w',r,O⟩:=D.same v y hy hD;rw[f]at r;cases r;exact O
 ·rw[w5]at f
  cases hkk:(iF u kp)[k]? with
  |none=>rw[hkk]at f;cases f
  | some b=>
    rw[hkk]at f;cases f;obtain⟨B,U,N,aI⟩:=b9 b (zD hkk);rw[cb hkk,ah b B _ N,if_pos (zD hkk)];unfold ze;rw[aI]
 ·rw[yn]at hk;rw[bu,Sp hk]
end
