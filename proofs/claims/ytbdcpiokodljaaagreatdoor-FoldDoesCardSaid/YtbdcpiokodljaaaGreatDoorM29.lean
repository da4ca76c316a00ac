/- Parts. -/
import Derived.Test.YtbdcpiokodljaaaGreatDoorM28
set_option maxHeartbeats 4000000
namespace Go.Proofs.YtbdcpiokodljaaaGreatDoor.Hx
open Un Dm
def qH.fix{α:Type}(E:qH α)(F:Nat->Prop)(h:Hp):qH α where
 sz:=E.sz
 rel _ _ x cs:=E.rel F h x cs
 len h:=E.len h
 one h:=E.one h
 fi _ h:=h
 mono _ h:=h
section
variable{F F':Nat->Prop}{h h':Hp}{cs ds:List Pc}{Q:fo}{u:U}{vv vb vs:V}
theorem ej.Z8{α:Type}{E:qH α}{ty:Nat}{xs:List α}{v:V}(H:ej F h cs)(i:Nat)(hi:cs[i]? =some (eJ E ty xs v)){k:Nat}{x:α}(hk:xs[k]? =some x)(kd:IntKind) :
  ∃l o w,gG E.sz v (.int kd k)=some (.ptr l o)/\fX E.sz (.ptr l o) h=some (.agg w)/\E.rel F h x w/\∀j u,w[j]? =some u->ez (.ptr l (o+j)) h=some u:=by
 obtain⟨c,rfl⟩:=kj.1 hk;have a:=(kj.1 hi).1;exact(H.Wi (E':=E.fix F h) i hi rfl rfl λk x y cs d b e=>by rw[d]at b;cases b;exact e).ix i (Qd a) c kd
theorem ld5{l ty:Nat}{a b c d e f:V}(H:ej F h cs)(i:Nat)(hi:cs[i]? =some (ey l ty [a,b,c,d,e,f])):fX 5 (.ptr l 0) h=some (.agg [a,b,c,d,e]):=by
 rw[Eo (H.get i hi)];rfl
theorem ej.Zj(H:ej F h cs)(i j:Nat) {ty d:Nat}{bs:List (Bk×V)}{fn:Nat->Option (List Nat×V)}{wb:V}{l:List Bk}(hi:cs[i]? =some (eJ wC ty bs wb))(f:cs[j]? =some (fT d fn))(hc:Xp l bs fn):ie eK (λl=>F l\/MG cs l) h l wb:=by
 refine(H.row i hi).read.Wi rfl (λm c=>c.imp id λc=>⟨i,_,hi,c⟩) (by rw[<-hc.fst,EN]) λk x y ws e g n=>?_;rw[<-hc.fst,AX,e]at g;cases g;have o:=(H.rows j f (hc.row k x.1 x.2 e)).slR (F':=λl=>F l\/MG cs l) (by simp_all) λm c=> .inr ⟨j,_,f,k,_,_,hc.row k x.1 x.2 e,c⟩;obtain⟨a,b,p,q,r,_⟩:=n;exact⟨a,x.2,b,p,q.mono λm c=>c.imp id λc=>⟨i,_,hi,c⟩,o,r.mono λm c=>c.imp id λc=>⟨i,_,hi,c⟩⟩
end
structure Ik (u:U):Prop where
 walk:zc7 u
 nv:u.ef.length<=3000
 KZ:∀(v:Nat) (b:Nat) (k:Nat) (b':Nat) (k':Nat),At u v b k->At u v b' k'->b=b'/\k=k'
 jW:∀(v:Nat) (b:Nat) (k:Nat),At u v b k->v<u.ef.length
 pre:∀(b:Nat) (B:Bk),u.blocks[b]? =some B->B.eQ.length<=700/\∀p∈B.eQ,p<u.blocks.length
 Dz:∀(v b k:Nat) (x:Vl) (B:Bk),At u v b k->u.ef[v]? =some x->x.op=21->u.blocks[b]? =some B->x.args.length=B.eQ.length
 args:∀(v:Nat) (x:Vl),u.ef[v]? =some x->x.args.length<=700
structure SD (u:U) (kp:Nat->Bool) (D:Nat->Prop) (xs:List (Vl×V)) (fa:Nat->Option (List Nat×V)):Prop where
 len:xs.length=u.ef.length
 out:∀i,u.ef.length<=i->fa i=none
 Dz:∀(v b k:Nat) (x:Vl) (B:Bk),D v->At u v b k->u.ef[v]? =some x->x.op=21->u.blocks[b]? =some B->∃w,xs[v]? =some ({x with args:=pD u kp b B.eQ x.args},w)/\fa v=some (pD u kp b B.eQ x.args,w)
 same:∀(v:Nat) (x:Vl),u.ef[v]? =some x->¬(x.op=21/\D v)->∃w,xs[v]? =some (x,w)/\fa v=some (x.args,w)
structure AsD (D:Nat->Prop) (az mO:List Int):Prop where
 len:mO.length=az.length
 gone:∀(v:Nat),D v->v<az.length->mO[v]? =some (-1)
 same:∀(v:Nat),¬D v->mO[v]? =az[v]?
theorem SD.more{D D':Nat->Prop}{u:U}{kp:Nat->Bool}{xs:List (Vl×V)}{fa:Nat->Option (List Nat×V)}(c:SD u kp D xs fa)(h:∀v,D' v->D v\/∃x,u.ef[v]? =some x/\x.op≠21)(d:∀v,D v->D' v):SD u kp D' xs fa where
 len:=c.len
 out:=c.out
 Dz v b k x B hD Kj hx hop hB:=by
  rcases h v hD with a|⟨y,a,e⟩
  ·exact c.Dz v b k x B a Kj hx hop hB
  simp_all
 same v x hx hn:=c.same v x hx (by grind)
theorem SD.put{D:Nat->Prop}{u:U}{kp:Nat->Bool}{xs:List (Vl×V)}{fa:Nat->Option (List Nat×V)}(g:Ik u)(c:SD u kp D xs fa){v b k:Nat}{x:Vl}{B:Bk}(d:At u v b k)(f:u.ef[v]? =some x)(h:x.op=21)(j:u.blocks[b]? =some B)(w:V) :
  SD u kp (λa=>D a\/a=v) (xs.set v ({x with args:=pD u kp b B.eQ x.args},w)) (up fa v (some (pD u kp b B.eQ x.args,w))) where
 len:=by rw[MC];exact c.len
 out i hi:=by
  have:=(kj.1 f).1;rw[jL _ _ (by omega)];exact c.out i hi
 Dz a b' k' y B' hD zbB hy hop' hB':=by
  by_cases e:a=v
  ·subst e;obtain⟨rfl,rfl⟩:=g.KZ _ _ _ _ _ d zbB;rw[f]at hy;cases hy;rw[j]at hB';cases hB';exact⟨w,Qd (by rw[c.len];grind),lZ _ _ _⟩
  ·rw[K6 (by omega),jL _ _ e];exact c.Dz a b' k' y B' (hD.resolve_right e) zbB hy hop' hB'
 same a y hy hn:=by
  by_cases e:a=v
  ·simp_all
  ·rw[K6 (by omega),jL _ _ e];exact c.same a y hy (by simp_all)
theorem AsD.congr{D D':Nat->Prop} {az mO:List Int}(c:AsD D az mO)(h:∀v,D v↔D' v):AsD D' az mO:=
 ⟨c.len,λv hv=>c.gone v (by simp_all),λv hv=>c.same v (by simp_all)⟩
theorem AsD.put{D:Nat->Prop} {az mO:List Int}(c:AsD D az mO)(v:Nat):AsD (λa=>D a\/a=v) az (mO.set v (-1)) where
 len:=by rw[MC];exact c.len
 gone a ha hl:=by
  by_cases e:a=v
  ·subst e;exact Qd (by rw[c.len];exact hl)
  ·rw[K6 (by omega)];exact c.gone a (ha.resolve_right e) hl
 same a ha:=by
  rw[K6 (by omega)];exact c.same a (by simp_all)
def DC(u:U)(kp:Nat->Bool)(c:Bool)(i j:Nat)(v:Nat):Prop:=(∃b k,b<i/\kp b=c/\At u v b k)\/∃k,k<j/\At u v i k
section
variable{F F':Nat->Prop}{h h':Hp}{cs ds:List Pc}{Q:fo}{u:U}
theorem ej.zci{ty:Nat}{xs:List Nat}{v q:V}(H:ej F h cs)(i:Nat)(hi:cs[i]? =some (eJ eN ty xs v)){k x:Nat}(a:xs[k]? =some x){kd:IntKind}(hq:gG 1 v (.int kd (k:Nat))=some q):ez q h=some (.I x):=by
 obtain⟨l,o,b,c⟩:=H.MK i hi a kd
 simp_all
theorem ej.zfa(H:ej F h cs)(i:Nat){l n:Nat}(hi:cs[i]? =some (ey l ev [.I n])):ej F h (cs.set i (eJ eN ev [n] (.slice l 0 1))):=by
 have a:=H.ok i _ hi;exact H.swap hi (.inr ⟨l,_,rfl,a.2.1,a.2.2,a.1,⟨[.I n],[],rfl,rfl,trivial⟩,rfl⟩) λm e=>e.symm
theorem ej.Z3{ι:Type} [DecidableEq ι] {ty:Nat}{f:ι->Option (List Nat×V)}{xs:List Nat}{v:V}(H:ej F h (eJ eN ty xs v::cs))(n:Nat)(o:cs[n]? =some (fT ty f)){i:ι}(hi:f i=Option.none):ej F h (cs.set n (fT ty (up f i (some (xs,v))))):=by
 have h0:=H.ok 0 _ rfl;have p:=H.ok (n+1) _ o;have r:∀l,Loc v l->¬(fT ty f).mM l:=λl m=>H.Fg 0 (n+1) _ _ rfl o (by omega) l m;have t:∀l,(fT ty (up f i (some (xs,v)))).mM l->Loc v l\/(fT ty f).mM l:=by
  rintro l ⟨k,ys,w,hk,u⟩;by_cases e:k=i
  ·simp_all
  ·rw[jL _ _ e]at hk;exact .inr ⟨k,ys,w,hk,u⟩
 have y:∀j c,j≠n->cs[j]? =some c->∀l,(fT ty (up f i (some (xs,v)))).mM l->¬c.mM l:=λj c d hc l m=>(t l m).elim (H.Fg 0 (j+1) _ c rfl hc (by omega) l) (H.Fg (n+1) (j+1) _ c o hc (by omega) l);refine⟨H.fl,λj c hc=>?_,λj k a b z A B l m g=>?_⟩
 ·rcases EZ hc with⟨_,rfl⟩|⟨_,q⟩
  ·refine ⟨λj ys w d=>?_,λj k ys w s x d hk o l m g=>?_⟩
   ·by_cases e:j=i
    ·subst e;rw[lZ]at d;cases d;exact h0
    ·rw[jL _ _ e]at d;exact p.1 j ys w d
   ·by_cases e:j=i
    ·subst e;rw[lZ]at d;cases d;rw[jL _ _ (by grind)]at hk;exact r l m ⟨k,s,x,hk,g⟩
    ·rw[jL _ _ e]at d;by_cases e':k=i
     ·subst e';rw[lZ]at hk;cases hk;exact r l g ⟨j,ys,w,d,m⟩
     ·rw[jL _ _ e']at hk;exact p.2 j k ys w s x d hk o l m g
  ·exact H.ok (j+1) c q
 ·rcases EZ z with⟨C,rfl⟩|⟨C,p⟩
  ·grind
  ·rcases EZ A with⟨D,rfl⟩|⟨_,q⟩
   ·grind
   ·exact H.Fg (j+1) (k+1) a b p q (by omega) l m g
theorem ej.XF{a b c d e f x y z:Pc}(H:ej F h (a::b::c::d::e::f::x::y::z::cs)):ej F h (d::a::f::x::y::z::cs):=
 H.re (λi=>match i with|0=>3|1=>0|n+2=>n+5) (by grind) (by grind)
theorem E3{α:Type}{l:List α}{i:Nat}{x:α}(h:l[i]? =some x):l.take (i+1)=l.take i++[x]:=by
 obtain⟨a,rfl⟩:=kj.1 h
 simp_all
theorem xL(p:Nat->Bool)(i:Nat):(List.range (i+1)).filter p=(List.range i).filter p++if p i=true then[i] else[]:=by
 rw[wBO,wB3,wB0];rfl
end
def RQ(bs:List (Bk×V))(b:Nat):V:=match bs[b]? with
 |some x=>x.2
 |none=> .undef
def ue(u:U)(kp:Nat->Bool)(b:Nat):Bk:={u.blocks.getD b Ph with eQ:=kR u kp b (u.blocks.getD b Ph).eQ}
section
variable{F F':Nat->Prop}{h h':Hp}{cs ds:List Pc}{Q:fo}{u:U}{wv wb ws mf:V}{lt ty:Nat}{az:List Int}{xs:List (Vl×V)}{bs:List (Bk×V)}{fa fn:Nat->Option (List Nat×V)}
theorem Yd(g:Ik u)(hc:Yn u.ef xs fa)(S:Xp u.blocks bs fn)(cg:az.length=u.ef.length)(bx:ws.one=true)
  (H0:ej F h (eJ yV gP xs wv::eJ wC fJ bs wb::fT ev fa::fT ev fn::eJ eZ ev az mf::ey lt ty [.I u.func,.I u.pc,wv,wb,ws,mf]::cs))
  (H:∀F' h' seen post kp u' n aR d I mO aS,Sn F h F' h'->Iy u.blocks.length (next u) seen post []->kp=(λb=>post.reverse.contains b)->Cut u kp u'->Yn u'.ef n d->Xp u'.blocks aR I->My u kp az mO->
   ej F' h' (eJ yV gP n wv::eJ wC fJ aR aS::fT ev d::fT ev I::eJ eZ ev mO mf::ey lt ty [.I u.func,.I u.pc,wv,aS,ws,mf]::cs)->Q (.tuple []) h') :
  cP CS oO [.ptr lt 0] h Q:=by
 refine G3 rfl rfl ?_;unfold zJ;have nb:=g.walk.nb;have nv:=g.nv;have aT:bs.length=u.blocks.length:=by rw[<-S.fst,EN]
 have bz:xs.length=u.ef.length:=by rw[<-hc.fst,EN]
 have fz:∀{h:Hp} {cs:List Pc},fF 0 (.ptr lt 0)=some (.ptr lt 0):=rfl;refine ed (fP _ _) (ed (fS _ _ _) (oF (H0.ld 5 rfl rfl) (ed (H0.len 1 rfl) ?_)));rw[aT,kW (z:=V.bool false) rfl (by decide) (by omega),fE];obtain⟨H1,s1⟩:=H0.make (E:=eB) (ty:=kr) (y:=false) (u:=V.bool false) u.blocks.length rfl rfl;generalize h.new (.cells kr 1 true false (List.replicate u.blocks.length (V.bool false)))=r at*;generalize h.next=lk at*;refine ed (fP _ _) (ed (fS _ _ _) (ed (ld5 H1 6 rfl) ?_));have ay:gv (uC u wv wb ws)=true:=by simp only[uC,eo,H1.one 1 rfl,H1.one 2 rfl,bx];rfl
 refine L4 g.walk H1.ze1 ay (H1.Zj 2 4 rfl rfl S) λO vo seen post aC aU G=>?_;have H2:=H1.zcH aC aU;have bA:=s1.trans aC.back;clear aC aU ay fz s1 H1;have ae:∀b∈post.reverse,b<u.blocks.length:=λb S=>G.pre b (wBH.1 S);have bC:post.reverse.length<=u.blocks.length:=by
  have r:=G.nodup;rw[YE,JY]at r;rw[List.length_reverse];exact jA _ _ r G.pre
 generalize aV:post.reverse=M at H2 ae bC⊢;refine ed (H2.len 0 rfl) ?_
 refine DX (λk l h'=>∃(i:Nat) (kl:List Bool),l=[.ptr lt 0,.slice lk 0 u.blocks.length,vo,.I M.length,.I i]/\i+k=M.length/\kl.length=u.blocks.length/\(∀b,b<u.blocks.length->kl[b]? =some ((M.take i).contains b))/\Sn F h F h'/\
  ej F h' (eJ eN ev M vo::eJ eB kr kl (.slice lk 0 u.blocks.length)::eJ yV gP xs wv::eJ wC fJ bs wb::fT ev fa::fT ev fn::eJ eZ ev az mf::ey lt ty [.I u.func,.I u.pc,wv,wb,ws,mf]::cs)) ?_ (k:=M.length)
  (by grind)
 rintro k _ _ _ _ _ h3 ⟨i,kl,⟨⟩,hk,aW,T,s3,H3⟩;unfold vJ;by_cases hi:i<M.length
 ·refine gy ?_;have f:=hO hi;have aD:M.take (i+1)=M.take i++[M[i]]:=OX hi;generalize M[i]=b at*;have bD:=ae b (DQ f);obtain⟨l1,o1,x1,x2⟩:=H3.MK 0 rfl f .i64;obtain⟨l2,o2,h4,e1,e2,_,H4,s4⟩:=H3.JZ 1 rfl (k:=b) (y:=true) (u:=V.bool true) (by omega) rfl rfl rfl;refine ed x1 (ed x2 (ed e1 ?_));rw[e2,ei];simp only[mP,rV]at H4;refine fI ⟨k-1,by omega,i+1,kl.set b true,rfl,by omega,by simp[aW],λc aX=>?_,s3.trans s4,H4⟩
  grind
 refine iI ?_;obtain rfl:i=M.length:=by omega
 rw[Lp]at T;clear hk k H2;have H3:=H3.tail;obtain⟨kp,aY⟩:∃kp:Nat->Bool,(λb=>M.contains b)=kp:=⟨_,rfl⟩
 have T:∀b,b<u.blocks.length->kl[b]? =some (kp b):=λb S=>by rw[T b S,<-aY]
 have aZ:kp=λb=>post.reverse.contains b:=by rw[aV,aY]
 have a4:fD (.slice lk 0 u.blocks.length)=some (.I u.blocks.length):=rfl;refine ed a4 ?_;rw[kW (z:=V.I 0) rfl (by decide) (by omega),fE];obtain⟨H4,s4⟩:=H3.make (E:=eN) (ty:=ev) (y:=0) (u:=V.I 0) u.blocks.length rfl rfl;generalize h3.new (.cells ev 1 true false (List.replicate u.blocks.length (V.I 0)))=h4 at*;generalize h3.next=ln at*;refine ed a4 ?_;have a5:=s3.trans s4;clear bA s3 s4 H3
 refine DJ (λk l h'=>∃(i:Nat) (ns:List Nat),l=[.ptr lt 0,.slice lk 0 u.blocks.length,.slice ln 0 u.blocks.length,.I (((List.range i).filter kp).length:Nat),.slice lk 0 u.blocks.length,.I u.blocks.length,.I i]/\i+k=u.blocks.length/\ns.length=u.blocks.length/\(∀b,b<i->ns[b]? =some (jR kp b))/\(∀b,i<=b->b<u.blocks.length->ns[b]? =some 0)/\Sn F h F h'/\
  ej F h' (eJ eN ev ns (.slice ln 0 u.blocks.length)::eJ eB kr kl (.slice lk 0 u.blocks.length)::eJ yV gP xs wv::eJ wC fJ bs wb::fT ev fa::fT ev fn::eJ eZ ev az mf::ey lt ty [.I u.func,.I u.pc,wv,wb,ws,mf]::cs)) ?_ (k:=u.blocks.length)
  ⟨0,_,rfl,by omega,Xh,λb S=>by omega,λb _ S=>by rw[wBz,if_pos S],a5,H4⟩
 clear a5 H4 H0;rintro k _ _ _ _ _ _ _ h3 ⟨i,ns,⟨⟩,hk,ag,an,ao,s3,H3⟩;unfold wo;have a6:((List.range i).filter kp).length<=i:=by
  have:=wBD kp (List.range i)
  rwa [UB]at this
 by_cases hi:i<u.blocks.length
 ·refine gy ?_;obtain⟨l1,o1,x1,x2⟩:=H3.Mr 1 rfl (T i hi) .i64;refine ed x1 (ed x2 (iJ ?_));have hr:((List.range (i+1)).filter kp).length=((List.range i).filter kp).length+(if kp i=true then 1 else 0):=by
   rw[wBO,wB3,K8,wB0];split <;> rfl
  by_cases A:kp i=true
  ·refine gj A ?_;obtain⟨l2,o2,h4,e1,e2,_,H4,s4⟩:=H3.JZ 0 rfl (k:=i) (y:=((List.range i).filter kp).length) (u:=V.I (((List.range i).filter kp).length:Nat)) (by omega) rfl rfl rfl;refine ed e1 ?_;rw[e2,ei];simp only[mP]at H4;refine fI (uB ?_);unfold o0;rw[if_pos A]at hr;refine fI ⟨k-1,by omega,i+1,ns.set i ((List.range i).filter kp).length,by rw[hr],by omega,by simp[ag],λb S=>?_,λb S aE=>?_,s3.trans s4,H4⟩
   ·by_cases e:b=i
    ·subst e;rw[Qd (by omega)];unfold jR;rw[if_pos A]
    ·rw[K6 λh=>e h.symm];exact an b (by omega)
   ·rw[K6 (by omega)];exact ao b (by omega) aE
  ·refine fU A (uB ?_);unfold o0;rw[if_neg A,wBw]at hr;refine fI ⟨k-1,by omega,i+1,ns,by rw[hr];rfl,by omega,ag,λb S=>?_,λb S aE=>ao b (by omega) aE,s3,H3⟩;by_cases e:b=i
   ·subst e;rw[ao b (ju _) hi];unfold jR;rw[if_neg A]
   ·exact an b (by omega)
 refine iI ?_;obtain rfl:i=u.blocks.length:=by omega
 clear hk k ao a6;refine ed (fP _ _) (ed (fS _ _ _) (oF (H3.ld 7 rfl rfl) (ed (H3.len 3 rfl) ?_)));rw[aT];have H3:ej F h3 (eJ wC fJ [] .ee::eJ eN ev ns (.slice ln 0 u.blocks.length)::eJ eB kr kl (.slice lk 0 u.blocks.length)::eJ yV gP xs wv::eJ wC fJ bs wb::fT ev fa::fT ev fn::eJ eZ ev az mf::ey lt ty [.I u.func,.I u.pc,wv,wb,ws,mf]::cs):=H3.add .nil λ_ h=>h;have ag:∀b,b<u.blocks.length->ns[b]? =some (jR kp b):=an
 refine Ej (λk l h'=>∃(F':Nat->Prop) (i:Nat) (n:List (Vl×V)) (d:Nat->Option (List Nat×V)) (mO:List Int) (X:V),l=[.ptr lt 0,.slice lk 0 u.blocks.length,.slice ln 0 u.blocks.length,X,wb,.I u.blocks.length,.I i]/\i+k=u.blocks.length/\Sn F h F' h'/\
  SD u kp (DC u kp true i 0) n d/\AsD (DC u kp false i 0) az mO/\
  ej F' h' (eJ wC fJ (((List.range i).filter kp).map λb=>(ue u kp b,RQ bs b)) X::eJ eN ev ns (.slice ln 0 u.blocks.length)::eJ eB kr kl (.slice lk 0 u.blocks.length)::eJ yV gP n wv::eJ wC fJ bs wb::fT ev d::fT ev fn::eJ eZ ev mO mf::ey lt ty [.I u.func,.I u.pc,wv,wb,ws,mf]::cs)) ?_ (k:=u.blocks.length)
  ⟨F,0,xs,fa,az,.ee,rfl,by omega,s3,?_,?_,H3⟩
 rotate_left
 ·refine ⟨bz,λi hi=>hc.out i (by omega),λv b k x B hD=>?_,λv x f _=>?_⟩
  ·rcases hD with⟨_,_,h,_⟩|⟨_,h,_⟩ <;> omega
  ·rw[<-hc.fst,AX]at f
   cases hy:xs[v]? with
   |none=>rw[hy]at f;cases f
   | some y=>
     rw[hy]at f;cases f;exact⟨y.2,rfl,hc.row v y.1 y.2 hy⟩
 ·refine⟨rfl,λv hD=>?_,λv _=>rfl⟩;rcases hD with⟨_,_,h,_⟩|⟨_,h,_⟩ <;> omega
 clear H3 s3 hi an;rintro k _ _ _ X _ _ _ h4 ⟨K,i,n,d,mO,_,⟨⟩,hk,s4,D,aa,H4⟩;unfold vS;by_cases hi:i<u.blocks.length
 ·refine gy ?_;obtain⟨⟨B,wn⟩,N⟩:∃y,bs[i]? =some y:=⟨_,hO (by omega)⟩
  have U:u.blocks[i]? =some B:=by rw[<-S.fst,AX,N];rfl
  have aF:RQ bs i=wn:=by unfold RQ;rw[N]
  obtain ⟨l1,o1,w1,x1,x2,⟨bv,bp,rfl,iv,ip,aG⟩,_⟩:=H4.Z8 4 rfl N .i64;have x1:gG 6 wb (.I i)=some (.ptr l1 o1):=x1;have x2:fX 6 (.ptr l1 o1) h4=some (.agg (lB B bv wn bp)):=x2;refine ed x1 (ed x2 ?_);refine gW H4 rfl rfl (by simp only[lB,eo,iv.one,ip.one,aG];rfl) λh5 H5 s5=>?_;generalize h4.next=lb at*;have iv:=iv.since s5;have ip:=ip.since s5;clear x1 x2;obtain⟨l2,o2,y1,y2⟩:=H5.Mr 3 rfl (T i hi) .i64;refine ed y1 (ed y2 (xM ?_));have a7:∀c v,DC u kp c (i+1) 0 v↔DC u kp c i 0 v\/(kp i=c/\∃k,At u v i k):=λc v=>by
   constructor
   ·rintro(⟨b,k,r,O,h3⟩|⟨k,r,_⟩)
    ·by_cases e:b=i
     ·subst e;exact .inr ⟨O,k,h3⟩
     ·exact .inl (.inl ⟨b,k,by omega,O,h3⟩)
    ·omega
   ·rintro((⟨b,k,r,O,h3⟩|⟨k,r,_⟩)|⟨r,k,O⟩)
    ·exact .inl ⟨b,k,by omega,O,h3⟩
    ·omega
    ·exact .inl ⟨i,k,by omega,r,O⟩
  have ap:∀c j w,B.ef[j]? =some w->∀v,DC u kp c i (j+1) v↔DC u kp c i j v\/v=w:=λc j w hw v=>by
   constructor
   ·rintro (r|⟨k,r,O⟩)
    ·exact .inl (.inl r)
    ·by_cases e:k=j
     ·subst e;obtain⟨B',e1,e2⟩:=O
      simp_all
     ·exact .inl (.inr ⟨k,by omega,O⟩)
   ·rintro((r|⟨k,r,O⟩)|rfl)
    ·exact .inl r
    ·exact .inr ⟨k,by omega,O⟩
    ·exact .inr ⟨j,by omega,B,U,hw⟩
  have aH:∀c,kp i=c->∀v,DC u kp c i B.ef.length v↔DC u kp c (i+1) 0 v:=λc bE v=>by
   rw[a7];constructor
   ·rintro(r|⟨k,r,O⟩)
    ·exact .inl (.inl r)
    ·exact .inr ⟨bE,k,O⟩
   ·rintro((r|⟨k,r,_⟩)|⟨_,k,B',e1,e2⟩)
    ·exact .inl r
    ·omega
    ·rw[U]at e1;cases e1;exact .inr ⟨k,(kj.1 e2).1,B,U,e2⟩
  have cd:B.ef.length<=u.ef.length:=by
   refine jA u.ef.length B.ef ?_ λv hv=>?_
   ·rw[List.nodup_iff_pairwise_ne,wA9];intro a b ha S ci e;have:=(g.KZ B.ef[a] i a i b ⟨B,U,hO ha⟩ ⟨B,U,by rw[e];exact hO S⟩).2;omega
   ·obtain⟨k,hk⟩:=nT.1 hv;exact g.jW v i k ⟨B,U,hk⟩
  by_cases A:kp i=true
  ·refine gj A ?_;have bG:=g.pre i B U;have aI:u.blocks.getD i Ph=B:=by rw[ED,U];rfl
   refine oF (H5.ld 0 rfl rfl) (ed ip.len ?_);obtain⟨c,aJ⟩:∃c:Nat->Bool,(λj=>kp (B.eQ.getD j 0)&&(next u (B.eQ.getD j 0)).contains i)=c:=⟨_,rfl⟩
   have aK:(List.range B.eQ.length).filter c=tx u kp i B.eQ:=by rw[<-aJ];rfl
   have H5:=(H5.add (p:=eJ eN ev [] .ee) .nil λ_ h=>h).add (p:=eJ eN ev [] .ee) .nil λ_ h=>h
   refine En (λk' l h'=>∃(j:Nat) (W s:V),l=[.ptr lt 0,.slice lk 0 u.blocks.length,.slice ln 0 u.blocks.length,X,.I i,.ptr lb 0,W,s,wb,.I u.blocks.length,.I i,bp,.I B.eQ.length,.I j]/\j+k' = B.eQ.length/\Sn F h K h'/\Sn K h5 K h'/\
    ej K h' (eJ eN ev (((List.range j).filter c).map λj=>jR kp (B.eQ.getD j 0)) s::eJ eN ev ((List.range j).filter c) W::ey lb 43 (lB B bv wn bp)::eJ wC fJ (((List.range i).filter kp).map λb=>(ue u kp b,RQ bs b)) X::eJ eN ev ns (.slice ln 0 u.blocks.length)::eJ eB kr kl (.slice lk 0 u.blocks.length)::eJ yV gP n wv::eJ wC fJ bs wb::fT ev d::fT ev fn::eJ eZ ev mO mf::ey lt ty [.I u.func,.I u.pc,wv,wb,ws,mf]::cs)) ?_ (k:=B.eQ.length)
    ⟨0,.ee,.ee,rfl,by omega,s4.trans s5,Sn.refl _ _,H5⟩
   clear H5 H4;rintro k' _ _ _ _ _ _ W s _ _ _ _ _ _ h6 ⟨j,_,_,⟨⟩,ai,s6,ab,R⟩;unfold vF;have aX:((List.range j).filter c).length<=j:=by
    have:=wBD c (List.range j)
    rwa [UB]at this
   by_cases hj:j<B.eQ.length
   ·refine gy ?_;have f:=hO hj;have aq:=bG.2 B.eQ[j] (AU hj);have a8:B.eQ.getD j 0=B.eQ[j]:=by rw[ED,f];rfl
    generalize B.eQ[j]=p at*;obtain⟨l1,o1,_,x1,x2⟩:=(ip.since ab).nat f .i64;obtain⟨l2,o2,y1,y2⟩:=R.Mr 5 rfl (T p aq) .i64;refine ed x1 (ed x2 (ed y1 (ed y2 ?_)));have a9:=xL c j;have ar:c j=(kp p&&(next u p).contains i):=by rw[<-aJ];simp only[a8]
    cases hkp':kp p with
    | false=>
      refine ik (ik (ik (ik (ik (ik (ik (ik (ik (ik (GY ?_))))))))));refine ed (show jw (.bool false) .undef (.bool false)=some (.bool false) from rfl) (iJ (fU (by decide) (pg ?_)));unfold me;refine lT (m:=1) (by omega) (by omega) ⟨k'-1,by omega,j+1,W,s,rfl,by omega,s6,ab,?_⟩;rw[a9,show c j=false by rw[ar,hkp'];rfl]
      simpa using R
    | true=>
      obtain⟨⟨P,wp⟩,aL⟩:∃y,bs[p]? =some y:=⟨_,hO (by omega)⟩
      have hP:u.blocks[p]? =some P:=by rw[<-S.fst,AX,aL];rfl
      have bH:next u p=P.next:=by unfold next;rw[hP]
      obtain⟨l3,o3,w3,z1,_,⟨pv,pp,rfl,_,_,_⟩,z2⟩:=R.Z8 7 rfl aL .i64;have z1:gG 6 wb (.I (p:Nat))=some (.ptr l3 o3):=z1;have z3:=z2 3 wp rfl;refine fV (ed rfl (fV (ed (fP _ _) (fV (ed (fS _ _ _) (fV (ed (fS _ _ _) (fV (ed (R.ld 11 rfl rfl) (fV (ed rfl (fV (ed z1 (fV (ed (fS _ _ _) (fV (ed z3 (fV (ed rfl (vI ?_))))))))))))))))))));refine zdW (R.rows 9 rfl (S.row p P wp aL)).read (by have:=g.walk.two p P hP;omega) i ?_;rw[<-bH];refine ed (by rfl) (iJ ?_);rw[hkp',wBc]at ar;by_cases aj:(next u p).contains i=true
      ·refine gj aj ?_
       rw[aj]at ar;rw[rS,g0];obtain⟨Y,s7⟩:=R.zT ev (gZ [j]);have Y:ej K (h6.new (.cells 3 1 true false (gZ [j]))) (ey h6.next 3 (gZ [j])::_):=Y;have s7:Sn K h6 K (h6.new (.cells 3 1 true false (gZ [j]))):=s7;generalize h6.new (.cells 3 1 true false (gZ [j]))=h7 at*;generalize h6.next=r1 at*;obtain⟨l4,o4,n1,n2⟩:=Y.MK 5 rfl (ag p aq) .i64;refine ed n1 (ed n2 ?_);rw[rS,g0];obtain⟨J,s8⟩:=Y.zT ev (gZ [jR kp p]);have J:ej K (h7.new (.cells 3 1 true false (gZ [jR kp p]))) (ey h7.next 3 (gZ [jR kp p])::ey r1 3 (gZ [j])::_):=J;have s8:Sn K h7 K (h7.new (.cells 3 1 true false (gZ [jR kp p]))):=s8;generalize h7.new (.cells 3 1 true false (gZ [jR kp p]))=h8 at*;generalize h7.next=r2 at*;refine⟨⟨J.get 0 rfl,bq⟩,J.zci 6 rfl (ag p aq) n1,⟨J.get 1 rfl,bq⟩,?_⟩;have J:=J.zfa 1 rfl;simp only[mP,rV]at J;obtain⟨va,h9,e9,n9,Z,s9⟩:=J.za8 3 1 rfl rfl (kL:=8) (by decide) (by decide) (by simp;omega);have ak:eR 3 1 8 W (.slice r1 0 1) h8=some (.val va h9):=e9;simp only[mP,rV]at Z;rw[ak,ei];refine⟨n9,⟨Z.get 0 rfl,bq⟩,Z.zci 6 rfl (ag p aq) n1,?_⟩;have Z:=Z.zfa 0 rfl;simp only[mP]at Z;obtain⟨vc,bI,Nj,bJ,al,bK⟩:=Z.za8 2 0 rfl rfl (kL:=8) (by decide) (by decide) (by simp;omega);have ba:eR 3 1 8 s (.slice r2 0 1) h9=some (.val vc bI):=Nj;rw[ba,ei];simp only[mP,rV]at al;refine⟨bJ,pg ?_⟩;unfold me;have sA:=((s7.trans s8).trans s9).trans bK;refine lT (m:=1) (by omega) (by omega) ⟨k'-1,by omega,j+1,va,vc,rfl,by omega,s6.trans sA,ab.trans sA,?_⟩;rw[a9,ar,if_pos rfl,PO,wBe,YE,a8];exact al.tail.tail
      ·refine fU aj (pg ?_)
       unfold me;refine lT (m:=1) (by omega) (by omega) ⟨k'-1,by omega,j+1,W,s,rfl,by omega,s6,ab,?_⟩
       simp_all
   refine iI ?_;obtain rfl:j=B.eQ.length:=by omega
   rw[aK]at R;have oV:(tx u kp i B.eQ).length<=700:=by rw[<-aK];omega
   have bL:∀m∈tx u kp i B.eQ,m<B.eQ.length:=λm hm=>by
    unfold tx at hm;exact Ve.1 (LC.1 hm).1
   have bb:(tx u kp i B.eQ).map (λj=>jR kp (B.eQ.getD j 0))=kR u kp i B.eQ:=rfl;rw[bb]at R;clear ai k' aX hj aK aJ c bb;refine oF (R.ld 2 rfl rfl) (ed iv.len ?_);have bc:=iv.since ab;clear iv ip ab
   refine DL (λk' l h'=>∃(j:Nat) (n:List (Vl×V)) (d:Nat->Option (List Nat×V)),l=[.ptr lt 0,.slice lk 0 u.blocks.length,.slice ln 0 u.blocks.length,X,.ptr lb 0,W,s,wb,.I u.blocks.length,.I i,bv,.I B.ef.length,.I j]/\j+k' = B.ef.length/\Sn F h K h'/\Sn K h6 K h'/\SD u kp (DC u kp true i j) n d/\
    ej K h' (eJ eN ev (kR u kp i B.eQ) s::eJ eN ev (tx u kp i B.eQ) W::ey lb 43 (lB B bv wn bp)::eJ wC fJ (((List.range i).filter kp).map λb=>(ue u kp b,RQ bs b)) X::eJ eN ev ns (.slice ln 0 u.blocks.length)::eJ eB kr kl (.slice lk 0 u.blocks.length)::eJ yV gP n wv::eJ wC fJ bs wb::fT ev d::fT ev fn::eJ eZ ev mO mf::ey lt ty [.I u.func,.I u.pc,wv,wb,ws,mf]::cs)) ?_ (k:=B.ef.length)
    ⟨0,n,d,rfl,by omega,s6,Sn.refl _ _,D,R⟩
   clear R s6 D;rintro k' _ _ _ _ _ _ _ _ _ _ _ _ _ h7 ⟨j,n,d,⟨⟩,ai,s7,au,D,Y⟩;unfold wA;by_cases hj:j<B.ef.length
   ·refine gy ?_;have f:=hO hj;generalize B.ef[j]=v at*;have L:At u v i j:=⟨B,U,f⟩
    have aw:=g.jW v i j L;obtain⟨l1,o1,_,x1,x2⟩:=(bc.since au).nat f .i64;obtain⟨x,ax⟩:∃x,u.ef[v]? =some x:=⟨_,hO aw⟩
    have bQ:¬DC u kp true i j v:=by
     rintro(⟨b,k,r,_,O⟩|⟨k,r,O⟩)
     ·have:=(g.KZ _ _ _ _ _ O L).1;omega
     ·have:=(g.KZ _ _ _ _ _ O L).2;omega
    obtain⟨w,aM,bR⟩:=D.same v x ax λh=>bQ h.2;obtain⟨lv,ov,wl,y1,_,⟨rfl,w1⟩,y2⟩:=Y.Z8 6 rfl aM .i64;have y1:gG 6 wv (.I v)=some (.ptr lv ov):=y1;refine ed x1 (ed x2 (ed (fP _ _) (ed (fS _ _ _) (oF (Y.ld 11 rfl rfl) (ed y1 (oN (y2 0 _ rfl) (fZ ?_)))))));by_cases ae:x.op=21
    ·refine gj (by show(x.op:Int)=21;omega) (ed (Y.len 1 rfl) ?_);have bS:=g.args v x ax;have ce:=g.Dz v i j x B L ax ae U;have J:=Y.add (p:=eJ eN ev [] .ee) .nil λ_ h=>h
     refine Er (λaN l h'=>∃(m:Nat) (vr:V),l=[.ptr lt 0,.slice lk 0 u.blocks.length,.slice ln 0 u.blocks.length,X,.ptr lb 0,W,s,.ptr lv ov,vr,wb,.I u.blocks.length,.I i,bv,.I B.ef.length,.I j,W,.I ((tx u kp i B.eQ).length:Nat),.I m]/\m+aN=(tx u kp i B.eQ).length/\Sn K h7 K h'/\
      ej K h' (eJ eN ev (((tx u kp i B.eQ).take m).map λj=>x.args.getD j 0) vr::eJ eN ev (kR u kp i B.eQ) s::eJ eN ev (tx u kp i B.eQ) W::ey lb 43 (lB B bv wn bp)::eJ wC fJ (((List.range i).filter kp).map λb=>(ue u kp b,RQ bs b)) X::eJ eN ev ns (.slice ln 0 u.blocks.length)::eJ eB kr kl (.slice lk 0 u.blocks.length)::eJ yV gP n wv::eJ wC fJ bs wb::fT ev d::fT ev fn::eJ eZ ev mO mf::ey lt ty [.I u.func,.I u.pc,wv,wb,ws,mf]::cs)) ?_ (k:=(tx u kp i B.eQ).length)
      ⟨0,.ee,rfl,by omega,Sn.refl _ _,J⟩
     clear J Y y2;rintro aN _ _ _ _ _ _ _ _ vr _ _ _ _ _ _ _ _ _ h8 ⟨m,_,⟨⟩,cf,aO,J⟩;unfold wF;obtain⟨bd,be,wl,y3,_,⟨rfl,_⟩,y4⟩:=J.Z8 7 rfl aM .i64;have y3:gG 6 wv (.I v)=some (.ptr bd be):=y3;rw[y1]at y3;obtain⟨rfl,rfl⟩:lv=bd/\ov=be:=by cases y3;exact⟨rfl,rfl⟩
     clear y3;by_cases hm:m<(tx u kp i B.eQ).length
     ·refine gy ?_;have hq:=hO hm;have aD:=E3 hq;have cj:=bL _ (AU hm);generalize (tx u kp i B.eQ)[m]=q at*;obtain⟨l2,o2,z1,z2⟩:=J.MK 2 rfl hq .i64;have ha:=hO (show q<x.args.length by omega);have bU:x.args.getD q 0=x.args[q]:=by rw[ED,ha];rfl
      generalize x.args[q]=a at*;obtain⟨l3,o3,_,z3,z4⟩:=(J.rows 9 rfl bR).read.nat ha .i64;refine ed z1 (ed z2 (oN (y4 4 _ rfl) (ed z3 (ed z4 ?_))));rw[rS,fE];obtain⟨va,h9,e9,_,Z,s9⟩:=J.wR 0 rfl (kL:=8) (K9:=3) (y:=a) (w:=gZ [a]) (ro:=false) rfl (by decide) (by decide) (by simp;omega);have ak:eR 3 1 8 vr (.slice h8.next 0 1) (h8.new (.cells 3 1 true false (gZ [a])))=some (.val va h9):=e9;rw[ak,ei];simp only[mP]at Z;refine fI ⟨aN-1,by omega,m+1,va,rfl,by omega,aO.trans s9,?_⟩;rw[aD,PO,wBe,YE,bU];exact Z
     refine iI ?_;obtain rfl:m=(tx u kp i B.eQ).length:=by omega
     rw [Lp]at J;have J:ej K h8 (eJ eN ev (pD u kp i B.eQ x.args) vr::_):=J;have bf:=J.one 0 rfl;have aA:=kj.1 aM;obtain⟨lq,h9,e1,e2,_,Z,s9⟩:=J.stF 7 rfl (k:=v) (j:=4) (y:=({x with args:=pD u kp i B.eQ x.args},vr)) (a:=vr) aA.1 (by decide) bf (λw' hw=>by
      rw[aA.2]at hw;obtain⟨rfl,_⟩:=hw;exact⟨rfl,bf⟩)
     have e1:gG 6 wv (.I v)=some (.ptr lq (v*6)):=e1;rw[y1]at e1;obtain⟨rfl,rfl⟩:lv=lq/\ov=v*6:=by cases e1;exact⟨rfl,rfl⟩
     have e2:gJ 1 (.ptr lv (v*6+4)) vr h8=some (.val .undef h9):=e2;refine ed (fP _ _) (ed (fS _ _ _) ?_);rw[e2,ei];simp only[mP,rV]at Z;have al:=Z.Sw 9 rfl (up d v Option.none) id (by grind[lZ,jL]) (λ_ _ _ _ _ _ e=>e);simp only[mP,rV]at al;have aP:=al.Z3 8 rfl (i:=v) (lZ _ _ _);simp only[mP,rV]at aP;have bg:up (up d v Option.none) v (some (pD u kp i B.eQ x.args,vr))=up d v (some (pD u kp i B.eQ x.args,vr)):=funext (by grind[lZ,jL]);rw[bg]at aP;refine uF ?_;unfold oY;have c2:=D.put g L ax ae U vr;refine fI ⟨k'-1,by omega,j+1,_,_,rfl,by omega,(s7.trans aO).trans s9,(au.trans aO).trans s9,?_,aP⟩;exact c2.more (λa ha=> .inl ((ap true j v f a).1 ha)) λa ha=>(ap true j v f a).2 ha
    ·refine fU (by show ¬(x.op:Int)=21;omega) (uF ?_);unfold oY;refine fI ⟨k'-1,by omega,j+1,n,d,rfl,by omega,s7,au,D.more (λa ha=>?_) (λa ha=>(ap true j v f a).2 (.inl ha)),Y⟩
     grind
   refine iI ?_;obtain rfl:j=B.ef.length:=by omega
   clear ai k' hj;have bV:=bc.since au;obtain⟨J,s8,rp⟩:=Y.jZ 0 rfl;simp only[mP]at J;have bW:=bV.since s8;generalize (λl=>K l\/Loc s l)=F8 at*;have J:=J.tail.tail;obtain⟨h9,e9,_,Z,s9⟩:=J.st 0 (o:=4) (u:=s) rfl (by simp[lB]) rp.one;refine ed (fS _ _ _) ?_;have ak:gJ 1 (.ptr lb (0+4)) s h7=some (.val .undef h9):=by rw[zO];exact e9
   rw[ak,ei];simp only[mP]at Z;have bh:ue u kp i = {B with eQ:=kR u kp i B.eQ}:=by unfold ue;rw[aI]
   have aj:(lB B bv wn bp).set 4 s=lB (ue u kp i) bv wn s:=by rw[bh];rfl
   rw [aj]at Z;have bi:=bW.since s9;have bj:=rp.since s9;refine ed (Z.tK 0 rfl rfl) ?_;have Z:=Z.tail;rw[rW (sz:=6) (w:=lB (ue u kp i) bv wn s) rfl rfl (by simp only[lB,eo,bi.one,aG,bj.one];rfl),fE];have cl:((List.range i).filter kp).length<=i:=by
    have:=wBD kp (List.range i)
    rwa [UB]at this
   obtain⟨bm,hA,eA,_,HA,sA⟩:=Z.wR 0 rfl (kL:=96) (K9:=43) (y:=(ue u kp i,wn)) (w:=lB (ue u kp i) bv wn s) (ro:=false) (by rw[bh];exact⟨bv,s,rfl,bi,bj,aG⟩) (by decide) (by decide) (by simp;omega);have bX:eR 43 6 96 X (.slice h9.next 0 1) (h9.new (.cells 43 6 true false (lB (ue u kp i) bv wn s)))=some (.val bm hA):=eA;rw[bX,ei];simp only[mP]at HA;refine uQ ?_;unfold oZ;refine fI ⟨k-1,by omega,F8,i+1,n,d,mO,bm,rfl,by omega,((s7.trans s8).trans s9).trans sA,?_,?_,?_⟩
   ·exact D.more (λv r=> .inl ((aH true A v).2 r)) λv r=>(aH true A v).1 r
   ·refine aa.congr λv=>?_
    simp_all
   ·rw[xL,A,if_pos rfl,PO,wBe,YE,aF];exact HA
  ·refine fU A ?_;have A:kp i=false:=wBj.2 A;refine oF (H5.ld 0 rfl rfl) (ed iv.len ?_);have H5:=H5.tail
   refine EA (λk' l h'=>∃(j:Nat) (mO:List Int),l=[.ptr lt 0,.slice lk 0 u.blocks.length,.slice ln 0 u.blocks.length,X,wb,.I u.blocks.length,.I i,bv,.I B.ef.length,.I j]/\j+k' = B.ef.length/\Sn F h K h'/\Sn K h5 K h'/\AsD (DC u kp false i j) az mO/\
    ej K h' (eJ wC fJ (((List.range i).filter kp).map λb=>(ue u kp b,RQ bs b)) X::eJ eN ev ns (.slice ln 0 u.blocks.length)::eJ eB kr kl (.slice lk 0 u.blocks.length)::eJ yV gP n wv::eJ wC fJ bs wb::fT ev d::fT ev fn::eJ eZ ev mO mf::ey lt ty [.I u.func,.I u.pc,wv,wb,ws,mf]::cs)) ?_ (k:=B.ef.length)
    ⟨0,mO,rfl,by omega,s4.trans s5,Sn.refl _ _,aa,H5⟩
   clear H5 H4;rintro k' _ _ _ X _ _ _ _ _ _ h6 ⟨j,mO,⟨⟩,ai,s6,ab,aa,R⟩;unfold wM;by_cases hj:j<B.ef.length
   ·refine gy ?_;have f:=hO hj;generalize B.ef[j]=v at*;have aw:=g.jW v i j ⟨B,U,f⟩;obtain⟨l1,o1,_,x1,x2⟩:=(iv.since ab).nat f .i64;refine ed x1 (ed x2 (oN (R.ld 8 rfl rfl) ?_));obtain⟨l2,o2,h7,e1,e2,_,Y,s7⟩:=R.JZ 7 rfl (k:=v) (y:=(-1:Int)) (u:=V.I (-1)) (by rw[aa.len];omega) rfl rfl rfl;refine ed e1 ?_;rw[e2,ei];simp only[mP,rV]at Y;exact fI ⟨k'-1,by omega,j+1,mO.set v (-1),rfl,by omega,s6.trans s7,ab.trans s7,(aa.put v).congr λa=>(ap false j v f a).symm,Y⟩
   refine iI (uQ ?_);unfold oZ;obtain rfl:j=B.ef.length:=by omega
   refine fI ⟨k-1,by omega,K,i+1,n,d,mO,_,rfl,by omega,s6,?_,aa.congr (aH false A),?_⟩
   ·refine D.more (λv r=> .inl ?_) λv r=>(a7 true v).2 (.inl r)
    simp_all
   ·rw[xL,A];simpa using R
 refine iI ?_;obtain rfl:i=u.blocks.length:=by omega
 clear hk k hi;have aW:(mz u kp).length<=u.blocks.length:=by
  have:=wBD kp (List.range u.blocks.length)
  rwa [UB]at this
 rw[show(List.range u.blocks.length).filter kp=mz u kp from rfl]at H4;refine ed (H4.len 0 rfl) ?_;rw[EN];have cm:(mz u kp).Nodup:=wBZ.filter _;have bo:∀b∈mz u kp,b<u.blocks.length:=λb S=>Ve.1 (LC.1 S).1
 refine DE (λk l h'=>∃(i:Nat) (I:Nat->Option (List Nat×V)),l=[.ptr lt 0,.slice ln 0 u.blocks.length,X,.I ((mz u kp).length:Nat),.I i]/\i+k=(mz u kp).length/\Sn F h K h'/\
  (∀b B w,bs[b]? =some (B,w)->I b=some (if b∈(mz u kp).take i then B.next.map (jR kp) else B.next,w))/\
  ej K h' (eJ wC fJ ((mz u kp).map λb=>(ue u kp b,RQ bs b)) X::eJ eN ev ns (.slice ln 0 u.blocks.length)::eJ eB kr kl (.slice lk 0 u.blocks.length)::eJ yV gP n wv::eJ wC fJ bs wb::fT ev d::fT ev I::eJ eZ ev mO mf::ey lt ty [.I u.func,.I u.pc,wv,wb,ws,mf]::cs)) ?_ (k:=(mz u kp).length)
  ⟨0,fn,rfl,by omega,s4,λb B w bY=>by rw[S.row b B w bY];simp,H4⟩
 clear H4 s4;rintro k _ _ _ _ _ h5 ⟨i,I,⟨⟩,hk,s5,ah,H5⟩;unfold wm;by_cases hi:i<(mz u kp).length
 ·refine gy ?_;have f:=hO hi;have aD:=E3 f;have bD:=bo _ (AU hi);have bZ:(mz u kp)[i] ∉ (mz u kp).take i:=by grind[nT,kj,NM,wBv,vY]
  generalize (mz u kp)[i]=b at*;obtain⟨⟨B,wn⟩,N⟩:∃y,bs[b]? =some y:=⟨_,hO (by omega)⟩
  have U:u.blocks[b]? =some B:=by rw[<-S.fst,AX,N];rfl
  have aF:RQ bs b=wn:=by unfold RQ;rw[N]
  have br:((mz u kp).map λb=>(ue u kp b,RQ bs b))[i]? =some (ue u kp b,wn):=by rw[AX,f,<-aF];rfl
  have cn:=g.walk.two b B U;have b4:∀t∈B.next,t<u.blocks.length:=λt ht=>g.walk.nx b t (by unfold next;rw[U];exact ht);have ac:=ah b B wn N;rw[if_neg bZ]at ac;obtain⟨lo,oo,w1,z1,_,⟨pv,pp,rfl,_,_,_⟩,z2⟩:=H5.Z8 0 rfl br .i64;have z1:gG 6 X (.I i)=some (.ptr lo oo):=z1;have z3:=z2 3 wn rfl;refine ed z1 (oF z3 (ed (H5.rows 6 rfl ac).len ?_))
  refine Ey (λk' l h'=>∃(j:Nat) (I:Nat->Option (List Nat×V)),l=[.ptr lt 0,.slice ln 0 u.blocks.length,X,.I i,.I ((mz u kp).length:Nat),.I i,wn,.I B.next.length,.I j]/\j+k' = B.next.length/\Sn F h K h'/\
   (∀c B w,c≠b->bs[c]? =some (B,w)->I c=some (if c∈(mz u kp).take i then B.next.map (jR kp) else B.next,w))/\I b=some ((B.next.take j).map (jR kp)++B.next.drop j,wn)/\
   ej K h' (eJ wC fJ ((mz u kp).map λb=>(ue u kp b,RQ bs b)) X::eJ eN ev ns (.slice ln 0 u.blocks.length)::eJ eB kr kl (.slice lk 0 u.blocks.length)::eJ yV gP n wv::eJ wC fJ bs wb::fT ev d::fT ev I::eJ eZ ev mO mf::ey lt ty [.I u.func,.I u.pc,wv,wb,ws,mf]::cs)) ?_ (k:=B.next.length)
   ⟨0,I,rfl,by omega,s5,λc B w _ hc=>ah c B w hc,ac,H5⟩
  clear H5 s5 z2 z3 ac ah;rintro k' _ _ _ _ _ _ _ _ _ h6 ⟨j,I,⟨⟩,ai,s6,ah,ac,R⟩;unfold vH;obtain⟨b5,b6,w1,z4,_,⟨pv,pp,rfl,_,_,_⟩,z2⟩:=R.Z8 0 rfl br .i64;have z4:gG 6 X (.I i)=some (.ptr b5 b6):=z4;have z3:=z2 3 wn rfl;by_cases hj:j<B.next.length
  ·refine gy ?_;have hn:=hO hj;have aB:((B.next.take j).map (jR kp)++B.next.drop j)[j]? =some B.next[j]:=by
    rw[Zo (by simp;omega)];simp[NM,wBk (Nat.le_of_lt hj)]
   have bt:((B.next.take j).map (jR kp)++B.next.drop j).set j (jR kp B.next[j])=(B.next.take (j+1)).map (jR kp)++B.next.drop (j+1):=by
    have hL:((B.next.take j).map (jR kp)).length=j:=by rw[EN,NM];omega
    rw[E3 hn,PO,M6,Yq hj,List.set_append_right _ _ (by omega),hL,Nat.sub_self];rfl
   have aQ:j<((B.next.take j).map (jR kp)++B.next.drop j).length:=(kj.1 aB).1;have b7:=b4 _ (AU hj);generalize B.next[j]=t at*;obtain⟨l1,o1,_,x1,x2⟩:=(R.rows 6 rfl ac).read.nat aB .i64;obtain⟨l2,o2,y1,y2⟩:=R.MK 1 rfl (ag t b7) .i64;obtain⟨l3,o3,h7,e1,e2,n7,Y,s7⟩:=R.Y7 6 rfl ac aQ (jR kp t);refine ed x1 (ed x2 (ed z4 (oF z3 (ed y1 (ed y2 (ed e1 ?_))))));rw[e2,ei];simp only[mP,rV]at Y;refine⟨n7,fI ⟨k'-1,by omega,j+1,_,rfl,by omega,s6.trans s7,λc C w bu hc=>?_,?_,Y⟩⟩
   ·rw[jL _ _ bu];exact ah c C w bu hc
   ·rw[lZ,bt]
  refine iI ?_;obtain rfl:j=B.next.length:=by omega
  rw[Lp,List.drop_length,JY]at ac;refine fI ⟨k-1,by omega,i+1,I,rfl,by omega,s6,λc C w hc=>?_,R⟩
  grind
 refine iI ?_;obtain rfl:i=(mz u kp).length:=by omega
 rw [Lp]at ah;clear hk k hi;obtain⟨h6,e6,_,R,s6⟩:=H5.st 8 (o:=3) (u:=X) rfl (by simp) (H5.one 0 rfl);refine ed (fP _ _) (ed (fS _ _ _) (ed (fS _ _ _) ?_));have b8:gJ 1 (.ptr lt (0+0+3)) X h5=some (.val .undef h6):=e6;rw[b8,ei];simp only[mP,rV]at R;have b9:∀b,b∈mz u kp->∃B,u.blocks[b]? =some B/\bs[b]? =some (B,RQ bs b)/\u.blocks.getD b Ph=B:=λb ca=>by
  obtain⟨⟨B,w⟩,N⟩:∃y,bs[b]? =some y:=⟨_,hO (by have:=bo b ca;omega)⟩
  have U:u.blocks[b]? =some B:=by rw[<-S.fst,AX,N];rfl
  exact⟨B,U,by unfold RQ;rw[N],by rw[ED,U];rfl⟩
 have Y:=R.Wi (E':=wC) (ys:=(mz u kp).map λb=>(EE u kp b,RQ bs b)) 0 rfl rfl (by simp) λk x y ws f hy hr=>by
  rw[AX]at f hy
  cases hkk:(mz u kp)[k]? with
  |none=>rw[hkk]at f;cases f
  | some b=>
    rw[hkk]at f hy;cases f;cases hy;exact hr
 simp only[mP]at Y;obtain⟨am,bw⟩:∃am:Nat->Option (List Nat×V),∀k,am k=match (mz u kp)[k]? with|some b=>I b|none=>Option.none:=⟨_,λ_=>rfl⟩
 have cb:∀{k b:Nat},(mz u kp)[k]? =some b->am k=I b:=λhk=>by rw[bw,hk]
 have J:=Y.Sw 6 rfl am (λk=>(mz u kp).getD k 0) (by grind) (by grind[mz,vY]);simp only[mP,rV]at J;have hU:∀c v,DC u kp c u.blocks.length 0 v↔∃b k,At u v b k/\kp b=c:=λc v=>by
  constructor
  ·rintro(⟨b,k,_,h3,h4⟩|⟨k,h3,_⟩)
   ·exact⟨b,k,h4,h3⟩
   ·omega
  ·rintro⟨b,k,h4,h3⟩;exact .inl ⟨b,k,(let⟨_,h,_⟩:=h4;(kj.1 h).1),h3,h4⟩
 refine H K h6 seen post kp ⟨u.func,u.pc,n.map Prod.fst,(mz u kp).map (EE u kp),u.eh⟩ n ((mz u kp).map λb=>(EE u kp b,RQ bs b)) d am mO X (s5.trans s6) G aZ ⟨rfl,rfl,rfl,rfl,by rw[EN,D.len],λv b k x B L f ae T U=>?_,λv x f hn=>?_⟩ ⟨rfl,λv x w f=>?_,λv hv=>D.out v (by rw[D.len]at hv;exact hv)⟩ ⟨by rw[List.map_map];rfl,λk B w f=>?_,λk hk=>?_⟩ ⟨aa.len,λv b k L T hv=>aa.gone v ((hU false v).2 ⟨b,k,L,T⟩) hv,λv hn=>aa.same v λhD=>hn ((hU false v).1 hD)⟩ J.XF
 ·obtain⟨w,r,_⟩:=D.Dz v b k x B ((hU true v).2 ⟨b,k,L,T⟩) L f ae U;rw[AX,r];rfl
 ·obtain⟨w,r,_⟩:=D.same v x f λ⟨r,O⟩=>hn ⟨r,(hU true v).1 O⟩;rw[AX,r];rfl
 ·have aw:v<u.ef.length:=by rw[<-D.len];exact(kj.1 f).1
  have hy:=hO aw;generalize u.ef[v]=y at*;by_cases hD:y.op=21/\DC u kp true u.blocks.length 0 v
  ·obtain⟨b,k,L,T⟩:=(hU true v).1 hD.2;obtain⟨B,U,co⟩:=id L;obtain⟨w',r,O⟩:=D.Dz v b k y B hD.2 L hy hD.1 U;rw[f]at r;cases r;exact O
  ·obtain⟨w',r,O⟩:=D.same v y hy hD;rw[f]at r;cases r;exact O
 ·rw[AX]at f
  cases hkk:(mz u kp)[k]? with
  |none=>rw[hkk]at f;cases f
  | some b=>
    rw[hkk]at f;cases f;obtain⟨B,U,N,aI⟩:=b9 b (DQ hkk);rw[cb hkk,ah b B _ N,if_pos (DQ hkk)];unfold EE;rw[aI]
 ·rw[EN]at hk;rw[bw,X8 hk]
end
