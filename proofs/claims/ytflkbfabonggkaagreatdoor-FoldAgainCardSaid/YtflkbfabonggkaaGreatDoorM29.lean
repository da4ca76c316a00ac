/- Parts. -/
import Derived.Test.YtflkbfabonggkaaGreatDoorM28
set_option maxHeartbeats 4000000
namespace Go.Proofs.YtflkbfabonggkaaGreatDoor.Hx
open Un Dm
def p8.fix{α:Type}(E:p8 α)(F:Nat->Prop)(h:Hp):p8 α where
 sz:=E.sz
 rel _ _ x cs:=E.rel F h x cs
 len h:=E.len h
 one h:=E.one h
 fh _ h:=h
 mono _ h:=h
section
variable{F F':Nat->Prop}{h h':Hp}{cs ds:List Pc}{Q:ft}{u:U}{vv vb vs:V}
theorem ej.YU{α:Type}{E:p8 α}{ty:Nat}{xs:List α}{v:V}(H:ej F h cs)(i:Nat)(hi:cs[i]? =some (eJ E ty xs v)){k:Nat}{x:α}(hk:xs[k]? =some x)(kd:IntKind) :
  ∃l o w,gz E.sz v (.int kd k)=some (.ptr l o)/\gv E.sz (.ptr l o) h=some (.agg w)/\E.rel F h x w/\∀j u,w[j]? =some u->ez (.ptr l (o+j)) h=some u:=by
 obtain⟨c,rfl⟩:=jP.1 hk;have a:=(jP.1 hi).1;exact(H.Wh (E':=E.fix F h) i hi rfl rfl λk x y cs d b e=>by rw[d]at b;cases b;exact e).ix i (O9 a) c kd
theorem ld5{l ty:Nat}{a b c d e f:V}(H:ej F h cs)(i:Nat)(hi:cs[i]? =some (ev l ty [a,b,c,d,e,f])):gv 5 (.ptr l 0) h=some (.agg [a,b,c,d,e]):=by
 rw[DU (H.get i hi)];rfl
theorem ej.Ye(H:ej F h cs)(i j:Nat) {ty d:Nat}{bs:List (Bk×V)}{fn:Nat->Option (List Nat×V)}{wb:V}{l:List Bk}(hi:cs[i]? =some (eJ vS ty bs wb))(f:cs[j]? =some (fS d fn))(hc:Xs l bs fn):iy eK (λl=>F l\/L2 cs l) h l wb:=by
 refine(H.row i hi).read.Wh rfl (λm c=>c.imp id λc=>⟨i,_,hi,c⟩) (by rw[<-hc.fst,DL]) λk x y ws e g n=>?_;rw[<-hc.fst,CH,e]at g;cases g;have o:=(H.rows j f (hc.row k x.1 x.2 e)).slR (F':=λl=>F l\/L2 cs l) (by simp_all) λm c=> .inr ⟨j,_,f,k,_,_,hc.row k x.1 x.2 e,c⟩;obtain⟨a,b,p,q,r,_⟩:=n;exact⟨a,x.2,b,p,q.mono λm c=>c.imp id λc=>⟨i,_,hi,c⟩,o,r.mono λm c=>c.imp id λc=>⟨i,_,hi,c⟩⟩
end
structure G8 (u:U):Prop where
 walk:zcp u
 nv:u.ef.length<=3000
 Ju:∀(v:Nat) (b:Nat) (k:Nat) (b':Nat) (k':Nat),At u v b k->At u v b' k'->b=b'/\k=k'
 jE:∀(v:Nat) (b:Nat) (k:Nat),At u v b k->v<u.ef.length
 pre:∀(b:Nat) (B:Bk),u.blocks[b]? =some B->B.eQ.length<=700/\∀p∈B.eQ,p<u.blocks.length
 CJ:∀(v b k:Nat) (x:Vl) (B:Bk),At u v b k->u.ef[v]? =some x->x.op=21->u.blocks[b]? =some B->x.args.length=B.eQ.length
 args:∀(v:Nat) (x:Vl),u.ef[v]? =some x->x.args.length<=700
structure Sg (u:U) (kp:Nat->Bool) (D:Nat->Prop) (xs:List (Vl×V)) (fa:Nat->Option (List Nat×V)):Prop where
 len:xs.length=u.ef.length
 out:∀i,u.ef.length<=i->fa i=none
 CJ:∀(v b k:Nat) (x:Vl) (B:Bk),D v->At u v b k->u.ef[v]? =some x->x.op=21->u.blocks[b]? =some B->∃w,xs[v]? =some ({x with args:=oE u kp b B.eQ x.args},w)/\fa v=some (oE u kp b B.eQ x.args,w)
 same:∀(v:Nat) (x:Vl),u.ef[v]? =some x->¬(x.op=21/\D v)->∃w,xs[v]? =some (x,w)/\fa v=some (x.args,w)
structure AsD (D:Nat->Prop) (az lO:List Int):Prop where
 len:lO.length=az.length
 gone:∀(v:Nat),D v->v<az.length->lO[v]? =some (-1)
 same:∀(v:Nat),¬D v->lO[v]? =az[v]?
theorem Sg.more{D D':Nat->Prop}{u:U}{kp:Nat->Bool}{xs:List (Vl×V)}{fa:Nat->Option (List Nat×V)}(c:Sg u kp D xs fa)(h:∀v,D' v->D v\/∃x,u.ef[v]? =some x/\x.op≠21)(d:∀v,D v->D' v):Sg u kp D' xs fa where
 len:=c.len
 out:=c.out
 CJ v b k x B hD OE hx hop hB:=by
  rcases h v hD with a|⟨y,a,e⟩
  ·exact c.CJ v b k x B a OE hx hop hB
  simp_all
 same v x hx hn:=c.same v x hx (by grind)
theorem Sg.put{D:Nat->Prop}{u:U}{kp:Nat->Bool}{xs:List (Vl×V)}{fa:Nat->Option (List Nat×V)}(g:G8 u)(c:Sg u kp D xs fa){v b k:Nat}{x:Vl}{B:Bk}(d:At u v b k)(f:u.ef[v]? =some x)(h:x.op=21)(j:u.blocks[b]? =some B)(w:V) :
  Sg u kp (λa=>D a\/a=v) (xs.set v ({x with args:=oE u kp b B.eQ x.args},w)) (up fa v (some (oE u kp b B.eQ x.args,w))) where
 len:=by rw[LU];exact c.len
 out i hi:=by
  have:=(jP.1 f).1;rw[js _ _ (by omega)];exact c.out i hi
 CJ a b' k' y B' hD Z6 hy hop' hB':=by
  by_cases e:a=v
  ·subst e;obtain⟨rfl,rfl⟩:=g.Ju _ _ _ _ _ d Z6;rw[f]at hy;cases hy;rw[j]at hB';cases hB';exact⟨w,O9 (by rw[c.len];grind),lg _ _ _⟩
  ·rw[Kk (by omega),js _ _ e];exact c.CJ a b' k' y B' (hD.resolve_right e) Z6 hy hop' hB'
 same a y hy hn:=by
  by_cases e:a=v
  ·simp_all
  ·rw[Kk (by omega),js _ _ e];exact c.same a y hy (by simp_all)
theorem AsD.congr{D D':Nat->Prop} {az lO:List Int}(c:AsD D az lO)(h:∀v,D v↔D' v):AsD D' az lO:=
 ⟨c.len,λv hv=>c.gone v (by simp_all),λv hv=>c.same v (by simp_all)⟩
theorem AsD.put{D:Nat->Prop} {az lO:List Int}(c:AsD D az lO)(v:Nat):AsD (λa=>D a\/a=v) az (lO.set v (-1)) where
 len:=by rw[LU];exact c.len
 gone a ha hl:=by
  by_cases e:a=v
  ·subst e;exact O9 (by rw[c.len];exact hl)
  ·rw[Kk (by omega)];exact c.gone a (ha.resolve_right e) hl
 same a ha:=by
  rw[Kk (by omega)];exact c.same a (by simp_all)
def CL(u:U)(kp:Nat->Bool)(c:Bool)(i j:Nat)(v:Nat):Prop:=(∃b k,b<i/\kp b=c/\At u v b k)\/∃k,k<j/\At u v i k
section
variable{F F':Nat->Prop}{h h':Hp}{cs ds:List Pc}{Q:ft}{u:U}
theorem ej.zbH{ty:Nat}{xs:List Nat}{v q:V}(H:ej F h cs)(i:Nat)(hi:cs[i]? =some (eJ eN ty xs v)){k x:Nat}(a:xs[k]? =some x){kd:IntKind}(hq:gz 1 v (.int kd (k:Nat))=some q):ez q h=some (.I x):=by
 obtain⟨l,o,b,c⟩:=H.LW i hi a kd
 simp_all
theorem ej.zdJ(H:ej F h cs)(i:Nat){l n:Nat}(hi:cs[i]? =some (ev l eo [.I n])):ej F h (cs.set i (eJ eN eo [n] (.slice l 0 1))):=by
 have a:=H.ok i _ hi;exact H.swap hi (.inr ⟨l,_,rfl,a.2.1,a.2.2,a.1,⟨[.I n],[],rfl,rfl,trivial⟩,rfl⟩) λm e=>e.symm
theorem ej.XC{ι:Type} [DecidableEq ι] {ty:Nat}{f:ι->Option (List Nat×V)}{xs:List Nat}{v:V}(H:ej F h (eJ eN ty xs v::cs))(n:Nat)(o:cs[n]? =some (fS ty f)){i:ι}(hi:f i=Option.none):ej F h (cs.set n (fS ty (up f i (some (xs,v))))):=by
 have h0:=H.ok 0 _ rfl;have p:=H.ok (n+1) _ o;have r:∀l,Loc v l->¬(fS ty f).ma l:=λl m=>H.E2 0 (n+1) _ _ rfl o (by omega) l m;have t:∀l,(fS ty (up f i (some (xs,v)))).ma l->Loc v l\/(fS ty f).ma l:=by
  rintro l ⟨k,ys,w,hk,u⟩;by_cases e:k=i
  ·simp_all
  ·rw[js _ _ e]at hk;exact .inr ⟨k,ys,w,hk,u⟩
 have y:∀j c,j≠n->cs[j]? =some c->∀l,(fS ty (up f i (some (xs,v)))).ma l->¬c.ma l:=λj c d hc l m=>(t l m).elim (H.E2 0 (j+1) _ c rfl hc (by omega) l) (H.E2 (n+1) (j+1) _ c o hc (by omega) l);refine⟨H.fl,λj c hc=>?_,λj k a b z A B l m g=>?_⟩
 ·rcases EV hc with⟨_,rfl⟩|⟨_,q⟩
  ·refine ⟨λj ys w d=>?_,λj k ys w s x d hk o l m g=>?_⟩
   ·by_cases e:j=i
    ·subst e;rw[lg]at d;cases d;exact h0
    ·rw[js _ _ e]at d;exact p.1 j ys w d
   ·by_cases e:j=i
    ·subst e;rw[lg]at d;cases d;rw[js _ _ (by grind)]at hk;exact r l m ⟨k,s,x,hk,g⟩
    ·rw[js _ _ e]at d;by_cases e':k=i
     ·subst e';rw[lg]at hk;cases hk;exact r l g ⟨j,ys,w,d,m⟩
     ·rw[js _ _ e']at hk;exact p.2 j k ys w s x d hk o l m g
  ·exact H.ok (j+1) c q
 ·rcases EV z with⟨C,rfl⟩|⟨C,p⟩
  ·grind
  ·rcases EV A with⟨D,rfl⟩|⟨_,q⟩
   ·grind
   ·exact H.E2 (j+1) (k+1) a b p q (by omega) l m g
theorem ej.W1{a b c d e f x y z:Pc}(H:ej F h (a::b::c::d::e::f::x::y::z::cs)):ej F h (d::a::f::x::y::z::cs):=
 H.re (λi=>match i with|0=>3|1=>0|n+2=>n+5) (by grind) (by grind)
theorem EO{α:Type}{l:List α}{i:Nat}{x:α}(h:l[i]? =some x):l.take (i+1)=l.take i++[x]:=by
 obtain⟨a,rfl⟩:=jP.1 h
 simp_all
theorem wN(p:Nat->Bool)(i:Nat):(List.range (i+1)).filter p=(List.range i).filter p++if p i=true then[i] else[]:=by
 rw[Yr,wB3,wB0];rfl
end
def Px(bs:List (Bk×V))(b:Nat):V:=match bs[b]? with
 |some x=>x.2
 |none=> .undef
def tm(u:U)(kp:Nat->Bool)(b:Nat):Bk:={u.blocks.getD b Oc with eQ:=ku u kp b (u.blocks.getD b Oc).eQ}
section
variable{F F':Nat->Prop}{h h':Hp}{cs ds:List Pc}{Q:ft}{u:U}{wv wb ws kG:V}{lt ty:Nat}{az:List Int}{xs:List (Vl×V)}{bs:List (Bk×V)}{fa fn:Nat->Option (List Nat×V)}
theorem Wa(g:G8 u)(hc:ZG u.ef xs fa)(S:Xs u.blocks bs fn)(ci:az.length=u.ef.length)(bx:ws.one=true)
  (H0:ej F h (eJ yA gL xs wv::eJ vS fI bs wb::fS eo fa::fS eo fn::eJ eZ eo az kG::ev lt ty [.I u.func,.I u.pc,wv,wb,ws,kG]::cs))
  (H:∀F' h' seen post kp u' n aR d I lO aS,Sn F h F' h'->HS u.blocks.length (next u) seen post []->kp=(λb=>post.reverse.contains b)->Cut u kp u'->ZG u'.ef n d->Xs u'.blocks aR I->LM u kp az lO->
   ej F' h' (eJ yA gL n wv::eJ vS fI aR aS::fS eo d::fS eo I::eJ eZ eo lO kG::ev lt ty [.I u.func,.I u.pc,wv,aS,ws,kG]::cs)->Q (.tuple []) h') :
  cP CS ny [.ptr lt 0] h Q:=by
 refine FZ rfl rfl ?_;unfold yM;have nb:=g.walk.nb;have nv:=g.nv;have aT:bs.length=u.blocks.length:=by rw[<-S.fst,DL]
 have bz:xs.length=u.ef.length:=by rw[<-hc.fst,DL]
 have fz:∀{h:Hp} {cs:List Pc},fH 0 (.ptr lt 0)=some (.ptr lt 0):=rfl;refine ed (fQ _ _) (ed (fT _ _ _) (oF (H0.ld 5 rfl rfl) (ed (H0.len 1 rfl) ?_)));rw[aT,kr (z:=V.bool false) rfl (by decide) (by omega),fx];obtain⟨H1,s1⟩:=H0.make (E:=eB) (ty:=jD) (y:=false) (u:=V.bool false) u.blocks.length rfl rfl;generalize h.new (.cells jD 1 true false (List.replicate u.blocks.length (V.bool false)))=r at*;generalize h.next=lk at*;refine ed (fQ _ _) (ed (fT _ _ _) (ed (ld5 H1 6 rfl) ?_));have ay:gj (uC u wv wb ws)=true:=by simp only[uC,ey,H1.one 1 rfl,H1.one 2 rfl,bx];rfl
 refine Ku g.walk H1.ze3 ay (H1.Ye 2 4 rfl rfl S) λO vo seen post aC aU G=>?_;have H2:=H1.zbw aC aU;have bA:=s1.trans aC.back;clear aC aU ay fz s1 H1;have ae:∀b∈post.reverse,b<u.blocks.length:=λb S=>G.pre b (wBH.1 S);have bC:post.reverse.length<=u.blocks.length:=by
  have r:=G.nodup;rw[Y1,Jk]at r;rw[List.length_reverse];exact jj _ _ r G.pre
 generalize aV:post.reverse=M at H2 ae bC⊢;refine ed (H2.len 0 rfl) ?_
 refine DI (λk l h'=>∃(i:Nat) (kl:List Bool),l=[.ptr lt 0,.slice lk 0 u.blocks.length,vo,.I M.length,.I i]/\i+k=M.length/\kl.length=u.blocks.length/\(∀b,b<u.blocks.length->kl[b]? =some ((M.take i).contains b))/\Sn F h F h'/\
  ej F h' (eJ eN eo M vo::eJ eB jD kl (.slice lk 0 u.blocks.length)::eJ yA gL xs wv::eJ vS fI bs wb::fS eo fa::fS eo fn::eJ eZ eo az kG::ev lt ty [.I u.func,.I u.pc,wv,wb,ws,kG]::cs)) ?_ (k:=M.length)
  (by grind)
 rintro k _ _ _ _ _ h3 ⟨i,kl,⟨⟩,hk,aW,T,s3,H3⟩;unfold vM;by_cases hi:i<M.length
 ·refine gG ?_;have f:=gW hi;have aD:M.take (i+1)=M.take i++[M[i]]:=N6 hi;generalize M[i]=b at*;have bD:=ae b (Dh f);obtain⟨l1,o1,x1,x2⟩:=H3.LW 0 rfl f .i64;obtain⟨l2,o2,h4,e1,e2,_,H4,s4⟩:=H3.Jj 1 rfl (k:=b) (y:=true) (u:=V.bool true) (by omega) rfl rfl rfl;refine ed x1 (ed x2 (ed e1 ?_));rw[e2,ei];simp only[je,mA]at H4;refine fL ⟨k-1,by omega,i+1,kl.set b true,rfl,by omega,by simp[aW],λc aX=>?_,s3.trans s4,H4⟩
  grind
 refine iJ ?_;obtain rfl:i=M.length:=by omega
 rw[JC]at T;clear hk k H2;have H3:=H3.tail;obtain⟨kp,aY⟩:∃kp:Nat->Bool,(λb=>M.contains b)=kp:=⟨_,rfl⟩
 have T:∀b,b<u.blocks.length->kl[b]? =some (kp b):=λb S=>by rw[T b S,<-aY]
 have aZ:kp=λb=>post.reverse.contains b:=by rw[aV,aY]
 have a4:fE (.slice lk 0 u.blocks.length)=some (.I u.blocks.length):=rfl;refine ed a4 ?_;rw[kr (z:=V.I 0) rfl (by decide) (by omega),fx];obtain⟨H4,s4⟩:=H3.make (E:=eN) (ty:=eo) (y:=0) (u:=V.I 0) u.blocks.length rfl rfl;generalize h3.new (.cells eo 1 true false (List.replicate u.blocks.length (V.I 0)))=h4 at*;generalize h3.next=ln at*;refine ed a4 ?_;have a5:=s3.trans s4;clear bA s3 s4 H3
 refine CT (λk l h'=>∃(i:Nat) (ns:List Nat),l=[.ptr lt 0,.slice lk 0 u.blocks.length,.slice ln 0 u.blocks.length,.I (((List.range i).filter kp).length:Nat),.slice lk 0 u.blocks.length,.I u.blocks.length,.I i]/\i+k=u.blocks.length/\ns.length=u.blocks.length/\(∀b,b<i->ns[b]? =some (jA kp b))/\(∀b,i<=b->b<u.blocks.length->ns[b]? =some 0)/\Sn F h F h'/\
  ej F h' (eJ eN eo ns (.slice ln 0 u.blocks.length)::eJ eB jD kl (.slice lk 0 u.blocks.length)::eJ yA gL xs wv::eJ vS fI bs wb::fS eo fa::fS eo fn::eJ eZ eo az kG::ev lt ty [.I u.func,.I u.pc,wv,wb,ws,kG]::cs)) ?_ (k:=u.blocks.length)
  ⟨0,_,rfl,by omega,W9,λb S=>by omega,λb _ S=>by rw[wBz,if_pos S],a5,H4⟩
 clear a5 H4 H0;rintro k _ _ _ _ _ _ _ h3 ⟨i,ns,⟨⟩,hk,ag,an,ao,s3,H3⟩;unfold vF;have a6:((List.range i).filter kp).length<=i:=by
  have:=X6 kp (List.range i)
  rwa [Tz]at this
 by_cases hi:i<u.blocks.length
 ·refine gG ?_;obtain⟨l1,o1,x1,x2⟩:=H3.LO 1 rfl (T i hi) .i64;refine ed x1 (ed x2 (iO ?_));have hr:((List.range (i+1)).filter kp).length=((List.range i).filter kp).length+(if kp i=true then 1 else 0):=by
   rw[Yr,wB3,Ji,wB0];split <;> rfl
  by_cases A:kp i=true
  ·refine gi A ?_;obtain⟨l2,o2,h4,e1,e2,_,H4,s4⟩:=H3.Jj 0 rfl (k:=i) (y:=((List.range i).filter kp).length) (u:=V.I (((List.range i).filter kp).length:Nat)) (by omega) rfl rfl rfl;refine ed e1 ?_;rw[e2,ei];simp only[je]at H4;refine fL (tZ ?_);unfold nN;rw[if_pos A]at hr;refine fL ⟨k-1,by omega,i+1,ns.set i ((List.range i).filter kp).length,by rw[hr],by omega,by simp[ag],λb S=>?_,λb S aE=>?_,s3.trans s4,H4⟩
   ·by_cases e:b=i
    ·subst e;rw[O9 (by omega)];unfold jA;rw[if_pos A]
    ·rw[Kk λh=>e h.symm];exact an b (by omega)
   ·rw[Kk (by omega)];exact ao b (by omega) aE
  ·refine fU A (tZ ?_);unfold nN;rw[if_neg A,wBw]at hr;refine fL ⟨k-1,by omega,i+1,ns,by rw[hr];rfl,by omega,ag,λb S=>?_,λb S aE=>ao b (by omega) aE,s3,H3⟩;by_cases e:b=i
   ·subst e;rw[ao b (iZ _) hi];unfold jA;rw[if_neg A]
   ·exact an b (by omega)
 refine iJ ?_;obtain rfl:i=u.blocks.length:=by omega
 clear hk k ao a6;refine ed (fQ _ _) (ed (fT _ _ _) (oF (H3.ld 7 rfl rfl) (ed (H3.len 3 rfl) ?_)));rw[aT];have H3:ej F h3 (eJ vS fI [] .ee::eJ eN eo ns (.slice ln 0 u.blocks.length)::eJ eB jD kl (.slice lk 0 u.blocks.length)::eJ yA gL xs wv::eJ vS fI bs wb::fS eo fa::fS eo fn::eJ eZ eo az kG::ev lt ty [.I u.func,.I u.pc,wv,wb,ws,kG]::cs):=H3.add .nil λ_ h=>h;have ag:∀b,b<u.blocks.length->ns[b]? =some (jA kp b):=an
 refine Dz (λk l h'=>∃(F':Nat->Prop) (i:Nat) (n:List (Vl×V)) (d:Nat->Option (List Nat×V)) (lO:List Int) (X:V),l=[.ptr lt 0,.slice lk 0 u.blocks.length,.slice ln 0 u.blocks.length,X,wb,.I u.blocks.length,.I i]/\i+k=u.blocks.length/\Sn F h F' h'/\
  Sg u kp (CL u kp true i 0) n d/\AsD (CL u kp false i 0) az lO/\
  ej F' h' (eJ vS fI (((List.range i).filter kp).map λb=>(tm u kp b,Px bs b)) X::eJ eN eo ns (.slice ln 0 u.blocks.length)::eJ eB jD kl (.slice lk 0 u.blocks.length)::eJ yA gL n wv::eJ vS fI bs wb::fS eo d::fS eo fn::eJ eZ eo lO kG::ev lt ty [.I u.func,.I u.pc,wv,wb,ws,kG]::cs)) ?_ (k:=u.blocks.length)
  ⟨F,0,xs,fa,az,.ee,rfl,by omega,s3,?_,?_,H3⟩
 rotate_left
 ·refine ⟨bz,λi hi=>hc.out i (by omega),λv b k x B hD=>?_,λv x f _=>?_⟩
  ·rcases hD with⟨_,_,h,_⟩|⟨_,h,_⟩ <;> omega
  ·rw[<-hc.fst,CH]at f
   cases hy:xs[v]? with
   |none=>rw[hy]at f;cases f
   | some y=>
     rw[hy]at f;cases f;exact⟨y.2,rfl,hc.row v y.1 y.2 hy⟩
 ·refine⟨rfl,λv hD=>?_,λv _=>rfl⟩;rcases hD with⟨_,_,h,_⟩|⟨_,h,_⟩ <;> omega
 clear H3 s3 hi an;rintro k _ _ _ X _ _ _ h4 ⟨K,i,n,d,lO,_,⟨⟩,hk,s4,D,aa,H4⟩;unfold vy;by_cases hi:i<u.blocks.length
 ·refine gG ?_;obtain⟨⟨B,wn⟩,N⟩:∃y,bs[i]? =some y:=⟨_,gW (by omega)⟩
  have U:u.blocks[i]? =some B:=by rw[<-S.fst,CH,N];rfl
  have aF:Px bs i=wn:=by unfold Px;rw[N]
  obtain ⟨l1,o1,w1,x1,x2,⟨bv,bp,rfl,iv,ip,aG⟩,_⟩:=H4.YU 4 rfl N .i64;have x1:gz 6 wb (.I i)=some (.ptr l1 o1):=x1;have x2:gv 6 (.ptr l1 o1) h4=some (.agg (kI B bv wn bp)):=x2;refine ed x1 (ed x2 ?_);refine ir H4 rfl rfl (by simp only[kI,ey,iv.one,ip.one,aG];rfl) λh5 H5 s5=>?_;generalize h4.next=lb at*;have iv:=iv.since s5;have ip:=ip.since s5;clear x1 x2;obtain⟨l2,o2,y1,y2⟩:=H5.LO 3 rfl (T i hi) .i64;refine ed y1 (ed y2 (w5 ?_));have a7:∀c v,CL u kp c (i+1) 0 v↔CL u kp c i 0 v\/(kp i=c/\∃k,At u v i k):=λc v=>by
   constructor
   ·rintro(⟨b,k,r,O,h3⟩|⟨k,r,_⟩)
    ·by_cases e:b=i
     ·subst e;exact .inr ⟨O,k,h3⟩
     ·exact .inl (.inl ⟨b,k,by omega,O,h3⟩)
    ·omega
   ·rintro((⟨b,k,r,O,h3⟩|⟨k,r,_⟩)|⟨r,k,O⟩)
    ·exact .inl ⟨b,k,by omega,O,h3⟩
    ·omega
    ·exact .inl ⟨i,k,by omega,r,O⟩
  have ap:∀c j w,B.ef[j]? =some w->∀v,CL u kp c i (j+1) v↔CL u kp c i j v\/v=w:=λc j w hw v=>by
   constructor
   ·rintro (r|⟨k,r,O⟩)
    ·exact .inl (.inl r)
    ·by_cases e:k=j
     ·subst e;obtain⟨B',e1,e2⟩:=O
      simp_all
     ·exact .inl (.inr ⟨k,by omega,O⟩)
   ·rintro((r|⟨k,r,O⟩)|rfl)
    ·exact .inl r
    ·exact .inr ⟨k,by omega,O⟩
    ·exact .inr ⟨j,by omega,B,U,hw⟩
  have aH:∀c,kp i=c->∀v,CL u kp c i B.ef.length v↔CL u kp c (i+1) 0 v:=λc bE v=>by
   rw[a7];constructor
   ·rintro(r|⟨k,r,O⟩)
    ·exact .inl (.inl r)
    ·exact .inr ⟨bE,k,O⟩
   ·rintro((r|⟨k,r,_⟩)|⟨_,k,B',e1,e2⟩)
    ·exact .inl r
    ·omega
    ·rw[U]at e1;cases e1;exact .inr ⟨k,(jP.1 e2).1,B,U,e2⟩
  have ce:B.ef.length<=u.ef.length:=by
   refine jj u.ef.length B.ef ?_ λv hv=>?_
   ·rw[List.nodup_iff_pairwise_ne,wBA];intro a b ha S cj e;have:=(g.Ju B.ef[a] i a i b ⟨B,U,gW ha⟩ ⟨B,U,by rw[e];exact gW S⟩).2;omega
   ·obtain⟨k,hk⟩:=mQ.1 hv;exact g.jE v i k ⟨B,U,hk⟩
  by_cases A:kp i=true
  ·refine gi A ?_;have bG:=g.pre i B U;have aI:u.blocks.getD i Oc=B:=by rw[DY,U];rfl
   refine oF (H5.ld 0 rfl rfl) (ed ip.len ?_);obtain⟨c,aJ⟩:∃c:Nat->Bool,(λj=>kp (B.eQ.getD j 0)&&(next u (B.eQ.getD j 0)).contains i)=c:=⟨_,rfl⟩
   have aK:(List.range B.eQ.length).filter c=ry u kp i B.eQ:=by rw[<-aJ];rfl
   have H5:=(H5.add (p:=eJ eN eo [] .ee) .nil λ_ h=>h).add (p:=eJ eN eo [] .ee) .nil λ_ h=>h
   refine C8 (λk' l h'=>∃(j:Nat) (W s:V),l=[.ptr lt 0,.slice lk 0 u.blocks.length,.slice ln 0 u.blocks.length,X,.I i,.ptr lb 0,W,s,wb,.I u.blocks.length,.I i,bp,.I B.eQ.length,.I j]/\j+k' = B.eQ.length/\Sn F h K h'/\Sn K h5 K h'/\
    ej K h' (eJ eN eo (((List.range j).filter c).map λj=>jA kp (B.eQ.getD j 0)) s::eJ eN eo ((List.range j).filter c) W::ev lb 47 (kI B bv wn bp)::eJ vS fI (((List.range i).filter kp).map λb=>(tm u kp b,Px bs b)) X::eJ eN eo ns (.slice ln 0 u.blocks.length)::eJ eB jD kl (.slice lk 0 u.blocks.length)::eJ yA gL n wv::eJ vS fI bs wb::fS eo d::fS eo fn::eJ eZ eo lO kG::ev lt ty [.I u.func,.I u.pc,wv,wb,ws,kG]::cs)) ?_ (k:=B.eQ.length)
    ⟨0,.ee,.ee,rfl,by omega,s4.trans s5,Sn.refl _ _,H5⟩
   clear H5 H4;rintro k' _ _ _ _ _ _ W s _ _ _ _ _ _ h6 ⟨j,_,_,⟨⟩,ai,s6,ab,R⟩;unfold uW;have aX:((List.range j).filter c).length<=j:=by
    have:=X6 c (List.range j)
    rwa [Tz]at this
   by_cases hj:j<B.eQ.length
   ·refine gG ?_;have f:=gW hj;have aq:=bG.2 B.eQ[j] (AW hj);have a8:B.eQ.getD j 0=B.eQ[j]:=by rw[DY,f];rfl
    generalize B.eQ[j]=p at*;obtain⟨l1,o1,_,x1,x2⟩:=(ip.since ab).nat f .i64;obtain⟨l2,o2,y1,y2⟩:=R.LO 5 rfl (T p aq) .i64;refine ed x1 (ed x2 (ed y1 (ed y2 ?_)));have a9:=wN c j;have ar:c j=(kp p&&(next u p).contains i):=by rw[<-aJ];simp only[a8]
    cases hkp':kp p with
    | false=>
      refine g0 (g0 (g0 (g0 (g0 (g0 (g0 (g0 (g0 (g0 (GP ?_))))))))));refine ed (show jt (.bool false) .undef (.bool false)=some (.bool false) from rfl) (iO (fU (by decide) (nY ?_)));unfold lj;refine kZ (m:=1) (by omega) (by omega) ⟨k'-1,by omega,j+1,W,s,rfl,by omega,s6,ab,?_⟩;rw[a9,show c j=false by rw[ar,hkp'];rfl]
      simpa using R
    | true=>
      obtain⟨⟨P,wp⟩,aL⟩:∃y,bs[p]? =some y:=⟨_,gW (by omega)⟩
      have hP:u.blocks[p]? =some P:=by rw[<-S.fst,CH,aL];rfl
      have bH:next u p=P.next:=by unfold next;rw[hP]
      obtain⟨l3,o3,w3,z1,_,⟨pv,pp,rfl,_,_,_⟩,z2⟩:=R.YU 7 rfl aL .i64;have z1:gz 6 wb (.I (p:Nat))=some (.ptr l3 o3):=z1;have z3:=z2 3 wp rfl;refine gq (ed rfl (gq (ed (fQ _ _) (gq (ed (fT _ _ _) (gq (ed (fT _ _ _) (gq (ed (R.ld 11 rfl rfl) (gq (ed rfl (gq (ed z1 (gq (ed (fT _ _ _) (gq (ed z3 (gq (ed rfl (wS ?_))))))))))))))))))));refine zcv (R.rows 9 rfl (S.row p P wp aL)).read (by have:=g.walk.two p P hP;omega) i ?_;rw[<-bH];refine ed (by rfl) (iO ?_);rw[hkp',ZR]at ar;by_cases aj:(next u p).contains i=true
      ·refine gi aj ?_
       rw[aj]at ar;rw[qZ,gR];obtain⟨Y,s7⟩:=R.zo eo (gP [j]);have Y:ej K (h6.new (.cells 3 1 true false (gP [j]))) (ev h6.next 3 (gP [j])::_):=Y;have s7:Sn K h6 K (h6.new (.cells 3 1 true false (gP [j]))):=s7;generalize h6.new (.cells 3 1 true false (gP [j]))=h7 at*;generalize h6.next=r1 at*;obtain⟨l4,o4,n1,n2⟩:=Y.LW 5 rfl (ag p aq) .i64;refine ed n1 (ed n2 ?_);rw[qZ,gR];obtain⟨J,s8⟩:=Y.zo eo (gP [jA kp p]);have J:ej K (h7.new (.cells 3 1 true false (gP [jA kp p]))) (ev h7.next 3 (gP [jA kp p])::ev r1 3 (gP [j])::_):=J;have s8:Sn K h7 K (h7.new (.cells 3 1 true false (gP [jA kp p]))):=s8;generalize h7.new (.cells 3 1 true false (gP [jA kp p]))=h8 at*;generalize h7.next=r2 at*;refine⟨⟨J.get 0 rfl,bq⟩,J.zbH 6 rfl (ag p aq) n1,⟨J.get 1 rfl,bq⟩,?_⟩;have J:=J.zdJ 1 rfl;simp only[je,mA]at J;obtain⟨va,h9,e9,n9,Z,s9⟩:=J.zaU 3 1 rfl rfl (jW:=8) (by decide) (by decide) (by simp;omega);have ak:eR 3 1 8 W (.slice r1 0 1) h8=some (.val va h9):=e9;simp only[je,mA]at Z;rw[ak,ei];refine⟨n9,⟨Z.get 0 rfl,bq⟩,Z.zbH 6 rfl (ag p aq) n1,?_⟩;have Z:=Z.zdJ 0 rfl;simp only[je]at Z;obtain⟨vc,bI,bJ,bK,al,bL⟩:=Z.zaU 2 0 rfl rfl (jW:=8) (by decide) (by decide) (by simp;omega);have ba:eR 3 1 8 s (.slice r2 0 1) h9=some (.val vc bI):=bJ;rw[ba,ei];simp only[je,mA]at al;refine⟨bK,nY ?_⟩;unfold lj;have sA:=((s7.trans s8).trans s9).trans bL;refine kZ (m:=1) (by omega) (by omega) ⟨k'-1,by omega,j+1,va,vc,rfl,by omega,s6.trans sA,ab.trans sA,?_⟩;rw[a9,ar,if_pos rfl,Ox,ZQ,Y1,a8];exact al.tail.tail
      ·refine fU aj (nY ?_)
       unfold lj;refine kZ (m:=1) (by omega) (by omega) ⟨k'-1,by omega,j+1,W,s,rfl,by omega,s6,ab,?_⟩
       simp_all
   refine iJ ?_;obtain rfl:j=B.eQ.length:=by omega
   rw[aK]at R;have ng:(ry u kp i B.eQ).length<=700:=by rw[<-aK];omega
   have bQ:∀m∈ry u kp i B.eQ,m<B.eQ.length:=λm hm=>by
    unfold ry at hm;exact TZ.1 (Ks.1 hm).1
   have bb:(ry u kp i B.eQ).map (λj=>jA kp (B.eQ.getD j 0))=ku u kp i B.eQ:=rfl;rw[bb]at R;clear ai k' aX hj aK aJ c bb;refine oF (R.ld 2 rfl rfl) (ed iv.len ?_);have bc:=iv.since ab;clear iv ip ab
   refine DB (λk' l h'=>∃(j:Nat) (n:List (Vl×V)) (d:Nat->Option (List Nat×V)),l=[.ptr lt 0,.slice lk 0 u.blocks.length,.slice ln 0 u.blocks.length,X,.ptr lb 0,W,s,wb,.I u.blocks.length,.I i,bv,.I B.ef.length,.I j]/\j+k' = B.ef.length/\Sn F h K h'/\Sn K h6 K h'/\Sg u kp (CL u kp true i j) n d/\
    ej K h' (eJ eN eo (ku u kp i B.eQ) s::eJ eN eo (ry u kp i B.eQ) W::ev lb 47 (kI B bv wn bp)::eJ vS fI (((List.range i).filter kp).map λb=>(tm u kp b,Px bs b)) X::eJ eN eo ns (.slice ln 0 u.blocks.length)::eJ eB jD kl (.slice lk 0 u.blocks.length)::eJ yA gL n wv::eJ vS fI bs wb::fS eo d::fS eo fn::eJ eZ eo lO kG::ev lt ty [.I u.func,.I u.pc,wv,wb,ws,kG]::cs)) ?_ (k:=B.ef.length)
    ⟨0,n,d,rfl,by omega,s6,Sn.refl _ _,D,R⟩
   clear R s6 D;rintro k' _ _ _ _ _ _ _ _ _ _ _ _ _ h7 ⟨j,n,d,⟨⟩,ai,s7,au,D,Y⟩;unfold uB;by_cases hj:j<B.ef.length
   ·refine gG ?_;have f:=gW hj;generalize B.ef[j]=v at*;have L:At u v i j:=⟨B,U,f⟩
    have aw:=g.jE v i j L;obtain⟨l1,o1,_,x1,x2⟩:=(bc.since au).nat f .i64;obtain⟨x,ax⟩:∃x,u.ef[v]? =some x:=⟨_,gW aw⟩
    have bR:¬CL u kp true i j v:=by
     rintro(⟨b,k,r,_,O⟩|⟨k,r,O⟩)
     ·have:=(g.Ju _ _ _ _ _ O L).1;omega
     ·have:=(g.Ju _ _ _ _ _ O L).2;omega
    obtain⟨w,aM,bS⟩:=D.same v x ax λh=>bR h.2;obtain⟨lv,ov,wl,y1,_,⟨rfl,w1⟩,y2⟩:=Y.YU 6 rfl aM .i64;have y1:gz 6 wv (.I v)=some (.ptr lv ov):=y1;refine ed x1 (ed x2 (ed (fQ _ _) (ed (fT _ _ _) (oF (Y.ld 11 rfl rfl) (ed y1 (oN (y2 0 _ rfl) (fX ?_)))))));by_cases ae:x.op=21
    ·refine gi (by show(x.op:Int)=21;omega) (ed (Y.len 1 rfl) ?_);have bU:=g.args v x ax;have cf:=g.CJ v i j x B L ax ae U;have J:=Y.add (p:=eJ eN eo [] .ee) .nil λ_ h=>h
     refine Dx (λaN l h'=>∃(m:Nat) (vr:V),l=[.ptr lt 0,.slice lk 0 u.blocks.length,.slice ln 0 u.blocks.length,X,.ptr lb 0,W,s,.ptr lv ov,vr,wb,.I u.blocks.length,.I i,bv,.I B.ef.length,.I j,W,.I ((ry u kp i B.eQ).length:Nat),.I m]/\m+aN=(ry u kp i B.eQ).length/\Sn K h7 K h'/\
      ej K h' (eJ eN eo (((ry u kp i B.eQ).take m).map λj=>x.args.getD j 0) vr::eJ eN eo (ku u kp i B.eQ) s::eJ eN eo (ry u kp i B.eQ) W::ev lb 47 (kI B bv wn bp)::eJ vS fI (((List.range i).filter kp).map λb=>(tm u kp b,Px bs b)) X::eJ eN eo ns (.slice ln 0 u.blocks.length)::eJ eB jD kl (.slice lk 0 u.blocks.length)::eJ yA gL n wv::eJ vS fI bs wb::fS eo d::fS eo fn::eJ eZ eo lO kG::ev lt ty [.I u.func,.I u.pc,wv,wb,ws,kG]::cs)) ?_ (k:=(ry u kp i B.eQ).length)
      ⟨0,.ee,rfl,by omega,Sn.refl _ _,J⟩
     clear J Y y2;rintro aN _ _ _ _ _ _ _ _ vr _ _ _ _ _ _ _ _ _ h8 ⟨m,_,⟨⟩,cg,aO,J⟩;unfold vP;obtain⟨bd,be,wl,y3,_,⟨rfl,_⟩,y4⟩:=J.YU 7 rfl aM .i64;have y3:gz 6 wv (.I v)=some (.ptr bd be):=y3;rw[y1]at y3;obtain⟨rfl,rfl⟩:lv=bd/\ov=be:=by cases y3;exact⟨rfl,rfl⟩
     clear y3;by_cases hm:m<(ry u kp i B.eQ).length
     ·refine gG ?_;have hq:=gW hm;have aD:=EO hq;have cl:=bQ _ (AW hm);generalize (ry u kp i B.eQ)[m]=q at*;obtain⟨l2,o2,z1,z2⟩:=J.LW 2 rfl hq .i64;have ha:=gW (show q<x.args.length by omega);have bV:x.args.getD q 0=x.args[q]:=by rw[DY,ha];rfl
      generalize x.args[q]=a at*;obtain⟨l3,o3,_,z3,z4⟩:=(J.rows 9 rfl bS).read.nat ha .i64;refine ed z1 (ed z2 (oN (y4 4 _ rfl) (ed z3 (ed z4 ?_))));rw[qZ,fx];obtain⟨va,h9,e9,_,Z,s9⟩:=J.vR 0 rfl (jW:=8) (DP:=3) (y:=a) (w:=gP [a]) (ro:=false) rfl (by decide) (by decide) (by simp;omega);have ak:eR 3 1 8 vr (.slice h8.next 0 1) (h8.new (.cells 3 1 true false (gP [a])))=some (.val va h9):=e9;rw[ak,ei];simp only[je]at Z;refine fL ⟨aN-1,by omega,m+1,va,rfl,by omega,aO.trans s9,?_⟩;rw[aD,Ox,ZQ,Y1,bV];exact Z
     refine iJ ?_;obtain rfl:m=(ry u kp i B.eQ).length:=by omega
     rw [JC]at J;have J:ej K h8 (eJ eN eo (oE u kp i B.eQ x.args) vr::_):=J;have bf:=J.one 0 rfl;have aA:=jP.1 aM;obtain⟨lq,h9,e1,e2,_,Z,s9⟩:=J.stF 7 rfl (k:=v) (j:=4) (y:=({x with args:=oE u kp i B.eQ x.args},vr)) (a:=vr) aA.1 (by decide) bf (λw' hw=>by
      rw[aA.2]at hw;obtain⟨rfl,_⟩:=hw;exact⟨rfl,bf⟩)
     have e1:gz 6 wv (.I v)=some (.ptr lq (v*6)):=e1;rw[y1]at e1;obtain⟨rfl,rfl⟩:lv=lq/\ov=v*6:=by cases e1;exact⟨rfl,rfl⟩
     have e2:gI 1 (.ptr lv (v*6+4)) vr h8=some (.val .undef h9):=e2;refine ed (fQ _ _) (ed (fT _ _ _) ?_);rw[e2,ei];simp only[je,mA]at Z;have al:=Z.RL 9 rfl (up d v Option.none) id (by grind[lg,js]) (λ_ _ _ _ _ _ e=>e);simp only[je,mA]at al;have aP:=al.XC 8 rfl (i:=v) (lg _ _ _);simp only[je,mA]at aP;have bg:up (up d v Option.none) v (some (oE u kp i B.eQ x.args,vr))=up d v (some (oE u kp i B.eQ x.args,vr)):=funext (by grind[lg,js]);rw[bg]at aP;refine tM ?_;unfold ou;have c2:=D.put g L ax ae U vr;refine fL ⟨k'-1,by omega,j+1,_,_,rfl,by omega,(s7.trans aO).trans s9,(au.trans aO).trans s9,?_,aP⟩;exact c2.more (λa ha=> .inl ((ap true j v f a).1 ha)) λa ha=>(ap true j v f a).2 ha
    ·refine fU (by show ¬(x.op:Int)=21;omega) (tM ?_);unfold ou;refine fL ⟨k'-1,by omega,j+1,n,d,rfl,by omega,s7,au,D.more (λa ha=>?_) (λa ha=>(ap true j v f a).2 (.inl ha)),Y⟩
     grind
   refine iJ ?_;obtain rfl:j=B.ef.length:=by omega
   clear ai k' hj;have bW:=bc.since au;obtain⟨J,s8,rp⟩:=Y.jI 0 rfl;simp only[je]at J;have bX:=bW.since s8;generalize (λl=>K l\/Loc s l)=F8 at*;have J:=J.tail.tail;obtain⟨h9,e9,_,Z,s9⟩:=J.st 0 (o:=4) (u:=s) rfl (by simp[kI]) rp.one;refine ed (fT _ _ _) ?_;have ak:gI 1 (.ptr lb (0+4)) s h7=some (.val .undef h9):=by rw[zj];exact e9
   rw[ak,ei];simp only[je]at Z;have bh:tm u kp i = {B with eQ:=ku u kp i B.eQ}:=by unfold tm;rw[aI]
   have aj:(kI B bv wn bp).set 4 s=kI (tm u kp i) bv wn s:=by rw[bh];rfl
   rw [aj]at Z;have bi:=bX.since s9;have bj:=rp.since s9;refine ed (Z.zb 0 rfl rfl) ?_;have Z:=Z.tail;rw[qY (sz:=6) (w:=kI (tm u kp i) bv wn s) rfl rfl (by simp only[kI,ey,bi.one,aG,bj.one];rfl),fx];have cm:((List.range i).filter kp).length<=i:=by
    have:=X6 kp (List.range i)
    rwa [Tz]at this
   obtain⟨bm,hA,eA,_,HA,sA⟩:=Z.vR 0 rfl (jW:=96) (DP:=47) (y:=(tm u kp i,wn)) (w:=kI (tm u kp i) bv wn s) (ro:=false) (by rw[bh];exact⟨bv,s,rfl,bi,bj,aG⟩) (by decide) (by decide) (by simp;omega);have bY:eR 47 6 96 X (.slice h9.next 0 1) (h9.new (.cells 47 6 true false (kI (tm u kp i) bv wn s)))=some (.val bm hA):=eA;rw[bY,ei];simp only[je]at HA;refine tN ?_;unfold nR;refine fL ⟨k-1,by omega,F8,i+1,n,d,lO,bm,rfl,by omega,((s7.trans s8).trans s9).trans sA,?_,?_,?_⟩
   ·exact D.more (λv r=> .inl ((aH true A v).2 r)) λv r=>(aH true A v).1 r
   ·refine aa.congr λv=>?_
    simp_all
   ·rw[wN,A,if_pos rfl,Ox,ZQ,Y1,aF];exact HA
  ·refine fU A ?_;have A:kp i=false:=wBk.2 A;refine oF (H5.ld 0 rfl rfl) (ed iv.len ?_);have H5:=H5.tail
   refine DJ (λk' l h'=>∃(j:Nat) (lO:List Int),l=[.ptr lt 0,.slice lk 0 u.blocks.length,.slice ln 0 u.blocks.length,X,wb,.I u.blocks.length,.I i,bv,.I B.ef.length,.I j]/\j+k' = B.ef.length/\Sn F h K h'/\Sn K h5 K h'/\AsD (CL u kp false i j) az lO/\
    ej K h' (eJ vS fI (((List.range i).filter kp).map λb=>(tm u kp b,Px bs b)) X::eJ eN eo ns (.slice ln 0 u.blocks.length)::eJ eB jD kl (.slice lk 0 u.blocks.length)::eJ yA gL n wv::eJ vS fI bs wb::fS eo d::fS eo fn::eJ eZ eo lO kG::ev lt ty [.I u.func,.I u.pc,wv,wb,ws,kG]::cs)) ?_ (k:=B.ef.length)
    ⟨0,lO,rfl,by omega,s4.trans s5,Sn.refl _ _,aa,H5⟩
   clear H5 H4;rintro k' _ _ _ X _ _ _ _ _ _ h6 ⟨j,lO,⟨⟩,ai,s6,ab,aa,R⟩;unfold vg;by_cases hj:j<B.ef.length
   ·refine gG ?_;have f:=gW hj;generalize B.ef[j]=v at*;have aw:=g.jE v i j ⟨B,U,f⟩;obtain⟨l1,o1,_,x1,x2⟩:=(iv.since ab).nat f .i64;refine ed x1 (ed x2 (oN (R.ld 8 rfl rfl) ?_));obtain⟨l2,o2,h7,e1,e2,_,Y,s7⟩:=R.Jj 7 rfl (k:=v) (y:=(-1:Int)) (u:=V.I (-1)) (by rw[aa.len];omega) rfl rfl rfl;refine ed e1 ?_;rw[e2,ei];simp only[je,mA]at Y;exact fL ⟨k'-1,by omega,j+1,lO.set v (-1),rfl,by omega,s6.trans s7,ab.trans s7,(aa.put v).congr λa=>(ap false j v f a).symm,Y⟩
   refine iJ (tN ?_);unfold nR;obtain rfl:j=B.ef.length:=by omega
   refine fL ⟨k-1,by omega,K,i+1,n,d,lO,_,rfl,by omega,s6,?_,aa.congr (aH false A),?_⟩
   ·refine D.more (λv r=> .inl ?_) λv r=>(a7 true v).2 (.inl r)
    simp_all
   ·rw[wN,A];simpa using R
 refine iJ ?_;obtain rfl:i=u.blocks.length:=by omega
 clear hk k hi;have aW:(lR u kp).length<=u.blocks.length:=by
  have:=X6 kp (List.range u.blocks.length)
  rwa [Tz]at this
 rw[show(List.range u.blocks.length).filter kp=lR u kp from rfl]at H4;refine ed (H4.len 0 rfl) ?_;rw[DL];have cn:(lR u kp).Nodup:=wBa.filter _;have bo:∀b∈lR u kp,b<u.blocks.length:=λb S=>TZ.1 (Ks.1 S).1
 refine CK (λk l h'=>∃(i:Nat) (I:Nat->Option (List Nat×V)),l=[.ptr lt 0,.slice ln 0 u.blocks.length,X,.I ((lR u kp).length:Nat),.I i]/\i+k=(lR u kp).length/\Sn F h K h'/\
  (∀b B w,bs[b]? =some (B,w)->I b=some (if b∈(lR u kp).take i then B.next.map (jA kp) else B.next,w))/\
  ej K h' (eJ vS fI ((lR u kp).map λb=>(tm u kp b,Px bs b)) X::eJ eN eo ns (.slice ln 0 u.blocks.length)::eJ eB jD kl (.slice lk 0 u.blocks.length)::eJ yA gL n wv::eJ vS fI bs wb::fS eo d::fS eo I::eJ eZ eo lO kG::ev lt ty [.I u.func,.I u.pc,wv,wb,ws,kG]::cs)) ?_ (k:=(lR u kp).length)
  ⟨0,fn,rfl,by omega,s4,λb B w bZ=>by rw[S.row b B w bZ];simp,H4⟩
 clear H4 s4;rintro k _ _ _ _ _ h5 ⟨i,I,⟨⟩,hk,s5,ah,H5⟩;unfold vm;by_cases hi:i<(lR u kp).length
 ·refine gG ?_;have f:=gW hi;have aD:=EO f;have bD:=bo _ (AW hi);have b4:(lR u kp)[i] ∉ (lR u kp).take i:=by grind[mQ,jP,Mo,wBY,qX]
  generalize (lR u kp)[i]=b at*;obtain⟨⟨B,wn⟩,N⟩:∃y,bs[b]? =some y:=⟨_,gW (by omega)⟩
  have U:u.blocks[b]? =some B:=by rw[<-S.fst,CH,N];rfl
  have aF:Px bs b=wn:=by unfold Px;rw[N]
  have br:((lR u kp).map λb=>(tm u kp b,Px bs b))[i]? =some (tm u kp b,wn):=by rw[CH,f,<-aF];rfl
  have co:=g.walk.two b B U;have b5:∀t∈B.next,t<u.blocks.length:=λt ht=>g.walk.nx b t (by unfold next;rw[U];exact ht);have ac:=ah b B wn N;rw[if_neg b4]at ac;obtain⟨lo,oo,w1,z1,_,⟨pv,pp,rfl,_,_,_⟩,z2⟩:=H5.YU 0 rfl br .i64;have z1:gz 6 X (.I i)=some (.ptr lo oo):=z1;have z3:=z2 3 wn rfl;refine ed z1 (oF z3 (ed (H5.rows 6 rfl ac).len ?_))
  refine DO (λk' l h'=>∃(j:Nat) (I:Nat->Option (List Nat×V)),l=[.ptr lt 0,.slice ln 0 u.blocks.length,X,.I i,.I ((lR u kp).length:Nat),.I i,wn,.I B.next.length,.I j]/\j+k' = B.next.length/\Sn F h K h'/\
   (∀c B w,c≠b->bs[c]? =some (B,w)->I c=some (if c∈(lR u kp).take i then B.next.map (jA kp) else B.next,w))/\I b=some ((B.next.take j).map (jA kp)++B.next.drop j,wn)/\
   ej K h' (eJ vS fI ((lR u kp).map λb=>(tm u kp b,Px bs b)) X::eJ eN eo ns (.slice ln 0 u.blocks.length)::eJ eB jD kl (.slice lk 0 u.blocks.length)::eJ yA gL n wv::eJ vS fI bs wb::fS eo d::fS eo I::eJ eZ eo lO kG::ev lt ty [.I u.func,.I u.pc,wv,wb,ws,kG]::cs)) ?_ (k:=B.next.length)
   ⟨0,I,rfl,by omega,s5,λc B w _ hc=>ah c B w hc,ac,H5⟩
  clear H5 s5 z2 z3 ac ah;rintro k' _ _ _ _ _ _ _ _ _ h6 ⟨j,I,⟨⟩,ai,s6,ah,ac,R⟩;unfold uV;obtain⟨b6,b7,w1,z4,_,⟨pv,pp,rfl,_,_,_⟩,z2⟩:=R.YU 0 rfl br .i64;have z4:gz 6 X (.I i)=some (.ptr b6 b7):=z4;have z3:=z2 3 wn rfl;by_cases hj:j<B.next.length
  ·refine gG ?_;have hn:=gW hj;have aB:((B.next.take j).map (jA kp)++B.next.drop j)[j]? =some B.next[j]:=by
    rw[Yq (by simp;omega)];simp[Mo,wBm (Nat.le_of_lt hj)]
   have bt:((B.next.take j).map (jA kp)++B.next.drop j).set j (jA kp B.next[j])=(B.next.take (j+1)).map (jA kp)++B.next.drop (j+1):=by
    have hL:((B.next.take j).map (jA kp)).length=j:=by rw[DL,Mo];omega
    rw[EO hn,Ox,LY,Xx hj,List.set_append_right _ _ (by omega),hL,Nat.sub_self];rfl
   have aQ:j<((B.next.take j).map (jA kp)++B.next.drop j).length:=(jP.1 aB).1;have b8:=b5 _ (AW hj);generalize B.next[j]=t at*;obtain⟨l1,o1,_,x1,x2⟩:=(R.rows 6 rfl ac).read.nat aB .i64;obtain⟨l2,o2,y1,y2⟩:=R.LW 1 rfl (ag t b8) .i64;obtain⟨l3,o3,h7,e1,e2,n7,Y,s7⟩:=R.XJ 6 rfl ac aQ (jA kp t);refine ed x1 (ed x2 (ed z4 (oF z3 (ed y1 (ed y2 (ed e1 ?_))))));rw[e2,ei];simp only[je,mA]at Y;refine⟨n7,fL ⟨k'-1,by omega,j+1,_,rfl,by omega,s6.trans s7,λc C w bu hc=>?_,?_,Y⟩⟩
   ·rw[js _ _ bu];exact ah c C w bu hc
   ·rw[lg,bt]
  refine iJ ?_;obtain rfl:j=B.next.length:=by omega
  rw[JC,List.drop_length,Jk]at ac;refine fL ⟨k-1,by omega,i+1,I,rfl,by omega,s6,λc C w hc=>?_,R⟩
  grind
 refine iJ ?_;obtain rfl:i=(lR u kp).length:=by omega
 rw [JC]at ah;clear hk k hi;obtain⟨h6,e6,_,R,s6⟩:=H5.st 8 (o:=3) (u:=X) rfl (by simp) (H5.one 0 rfl);refine ed (fQ _ _) (ed (fT _ _ _) (ed (fT _ _ _) ?_));have b9:gI 1 (.ptr lt (0+0+3)) X h5=some (.val .undef h6):=e6;rw[b9,ei];simp only[je,mA]at R;have ca:∀b,b∈lR u kp->∃B,u.blocks[b]? =some B/\bs[b]? =some (B,Px bs b)/\u.blocks.getD b Oc=B:=λb cb=>by
  obtain⟨⟨B,w⟩,N⟩:∃y,bs[b]? =some y:=⟨_,gW (by have:=bo b cb;omega)⟩
  have U:u.blocks[b]? =some B:=by rw[<-S.fst,CH,N];rfl
  exact⟨B,U,by unfold Px;rw[N],by rw[DY,U];rfl⟩
 have Y:=R.Wh (E':=vS) (ys:=(lR u kp).map λb=>(Eu u kp b,Px bs b)) 0 rfl rfl (by simp) λk x y ws f hy hr=>by
  rw[CH]at f hy
  cases hkk:(lR u kp)[k]? with
  |none=>rw[hkk]at f;cases f
  | some b=>
    rw[hkk]at f hy;cases f;cases hy;exact hr
 simp only[je]at Y;obtain⟨am,bw⟩:∃am:Nat->Option (List Nat×V),∀k,am k=match (lR u kp)[k]? with|some b=>I b|none=>Option.none:=⟨_,λ_=>rfl⟩
 have cd:∀{k b:Nat},(lR u kp)[k]? =some b->am k=I b:=λhk=>by rw[bw,hk]
 have J:=Y.RL 6 rfl am (λk=>(lR u kp).getD k 0) (by grind) (by grind[lR,qX]);simp only[je,mA]at J;have hU:∀c v,CL u kp c u.blocks.length 0 v↔∃b k,At u v b k/\kp b=c:=λc v=>by
  constructor
  ·rintro(⟨b,k,_,h3,h4⟩|⟨k,h3,_⟩)
   ·exact⟨b,k,h4,h3⟩
   ·omega
  ·rintro⟨b,k,h4,h3⟩;exact .inl ⟨b,k,(let⟨_,h,_⟩:=h4;(jP.1 h).1),h3,h4⟩
 refine H K h6 seen post kp ⟨u.func,u.pc,n.map Prod.fst,(lR u kp).map (Eu u kp),u.eh⟩ n ((lR u kp).map λb=>(Eu u kp b,Px bs b)) d am lO X (s5.trans s6) G aZ ⟨rfl,rfl,rfl,rfl,by rw[DL,D.len],λv b k x B L f ae T U=>?_,λv x f hn=>?_⟩ ⟨rfl,λv x w f=>?_,λv hv=>D.out v (by rw[D.len]at hv;exact hv)⟩ ⟨by rw[List.map_map];rfl,λk B w f=>?_,λk hk=>?_⟩ ⟨aa.len,λv b k L T hv=>aa.gone v ((hU false v).2 ⟨b,k,L,T⟩) hv,λv hn=>aa.same v λhD=>hn ((hU false v).1 hD)⟩ J.W1
 ·obtain⟨w,r,_⟩:=D.CJ v b k x B ((hU true v).2 ⟨b,k,L,T⟩) L f ae U;rw[CH,r];rfl
 ·obtain⟨w,r,_⟩:=D.same v x f λ⟨r,O⟩=>hn ⟨r,(hU true v).1 O⟩;rw[CH,r];rfl
 ·have aw:v<u.ef.length:=by rw[<-D.len];exact(jP.1 f).1
  have hy:=gW aw;generalize u.ef[v]=y at*;by_cases hD:y.op=21/\CL u kp true u.blocks.length 0 v
  ·obtain⟨b,k,L,T⟩:=(hU true v).1 hD.2;obtain⟨B,U,cp⟩:=id L;obtain⟨w',r,O⟩:=D.CJ v b k y B hD.2 L hy hD.1 U;rw[f]at r;cases r;exact O
  ·obtain⟨w',r,O⟩:=D.same v y hy hD;rw[f]at r;cases r;exact O
 ·rw[CH]at f
  cases hkk:(lR u kp)[k]? with
  |none=>rw[hkk]at f;cases f
  | some b=>
    rw[hkk]at f;cases f;obtain⟨B,U,N,aI⟩:=ca b (Dh hkk);rw[cd hkk,ah b B _ N,if_pos (Dh hkk)];unfold Eu;rw[aI]
 ·rw[DL]at hk;rw[bw,VM hk]
end
