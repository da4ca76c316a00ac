/- Parts. -/
import Derived.Test.YtpfjdlicdljhaaaDoorM28
set_option maxHeartbeats 4000000
namespace Go.Proofs.YtpfjdlicdljhaaaDoor.Hx
open Un Dm
def pG.fix{α:Type}(E:pG α)(F:Nat->Prop)(h:Hp):pG α where
 sz:=E.sz
 rel _ _ x cs:=E.rel F h x cs
 len h:=E.len h
 one h:=E.one h
 eR _ h:=h
 mono _ h:=h
section
variable{F F':Nat->Prop}{h h':Hp}{cs ds:List Pc}{Q:fo}{u:U}{vv vb vs:V}
theorem ei.VF{α:Type}{E:pG α}{ty:Nat}{xs:List α}{v:V}(H:ei F h cs)(i:Nat)(hi:cs[i]? =some (eJ E ty xs v)){k:Nat}{x:α}(hk:xs[k]? =some x)(kd:IntKind) :
  ∃l o w,gI E.sz v (.int kd k)=some (.ptr l o)/\gy E.sz (.ptr l o) h=some (.agg w)/\E.rel F h x w/\∀j u,w[j]? =some u->ey (.ptr l (o+j)) h=some u:=by
 obtain⟨c,rfl⟩:=jq.1 hk;have a:=(jq.1 hi).1;exact(H.Up (E':=E.fix F h) i hi rfl rfl λk x y cs d b e=>by rw[d]at b;cases b;exact e).ix i (MT a) c kd
theorem ld5{l ty:Nat}{a b c d e f:V}(H:ei F h cs)(i:Nat)(hi:cs[i]? =some (er l ty [a,b,c,d,e,f])):gy 5 (.ptr l 0) h=some (.agg [a,b,c,d,e]):=by
 rw[Bf (H.get i hi)];rfl
theorem ei.WW(H:ei F h cs)(i j:Nat) {ty d:Nat}{bs:List (Bk×V)}{fn:Nat->Option (List Nat×V)}{wb:V}{l:List Bk}(hi:cs[i]? =some (eJ tM ty bs wb))(f:cs[j]? =some (fG d fn))(hc:UP l bs fn):iA eK (λl=>F l\/Jw cs l) h l wb:=by
 refine(H.row i hi).read.Up rfl (λm c=>c.imp id λc=>⟨i,_,hi,c⟩) (by rw[<-hc.fst,BW]) λk x y ws e g n=>?_;rw[<-hc.fst,AJ,e]at g;cases g;have o:=(H.rows j f (hc.row k x.1 x.2 e)).Xp (F':=λl=>F l\/Jw cs l) (by simp_all) λm c=> .inr ⟨j,_,f,k,_,_,hc.row k x.1 x.2 e,c⟩;obtain⟨a,b,p,q,r,_⟩:=n;exact⟨a,x.2,b,p,q.mono λm c=>c.imp id λc=>⟨i,_,hi,c⟩,o,r.mono λm c=>c.imp id λc=>⟨i,_,hi,c⟩⟩
end
structure Ey (u:U):Prop where
 walk:zap u
 nv:u.ef.length<=3000
 Hy:∀(v:Nat) (b:Nat) (k:Nat) (b':Nat) (k':Nat),At u v b k->At u v b' k'->b=b'/\k=k'
 jA:∀(v:Nat) (b:Nat) (k:Nat),At u v b k->v<u.ef.length
 pre:∀(b:Nat) (B:Bk),u.blocks[b]? =some B->B.ez.length<=700/\∀p∈B.ez,p<u.blocks.length
 By:∀(v b k:Nat) (x:Vl) (B:Bk),At u v b k->u.ef[v]? =some x->x.op=21->u.blocks[b]? =some B->x.args.length=B.ez.length
 args:∀(v:Nat) (x:Vl),u.ef[v]? =some x->x.args.length<=700
structure Pw (u:U) (kp:Nat->Bool) (D:Nat->Prop) (xs:List (Vl×V)) (fa:Nat->Option (List Nat×V)):Prop where
 len:xs.length=u.ef.length
 out:∀i,u.ef.length<=i->fa i=none
 By:∀(v b k:Nat) (x:Vl) (B:Bk),D v->At u v b k->u.ef[v]? =some x->x.op=21->u.blocks[b]? =some B->∃w,xs[v]? =some ({x with args:=mS u kp b B.ez x.args},w)/\fa v=some (mS u kp b B.ez x.args,w)
 same:∀(v:Nat) (x:Vl),u.ef[v]? =some x->¬(x.op=21/\D v)->∃w,xs[v]? =some (x,w)/\fa v=some (x.args,w)
structure ZB (D:Nat->Prop) (az kL:List Int):Prop where
 len:kL.length=az.length
 gone:∀(v:Nat),D v->v<az.length->kL[v]? =some (-1)
 same:∀(v:Nat),¬D v->kL[v]? =az[v]?
theorem Pw.more{D D':Nat->Prop}{u:U}{kp:Nat->Bool}{xs:List (Vl×V)}{fa:Nat->Option (List Nat×V)}(c:Pw u kp D xs fa)(h:∀v,D' v->D v\/∃x,u.ef[v]? =some x/\x.op≠21)(d:∀v,D v->D' v):Pw u kp D' xs fa where
 len:=c.len
 out:=c.out
 By v b k x B hD LU hx UR hB:=by
  rcases h v hD with a|⟨y,a,e⟩
  ·exact c.By v b k x B a LU hx UR hB
  simp_all
 same v x hx hn:=c.same v x hx (by grind)
theorem Pw.put{D:Nat->Prop}{u:U}{kp:Nat->Bool}{xs:List (Vl×V)}{fa:Nat->Option (List Nat×V)}(g:Ey u)(c:Pw u kp D xs fa){v b k:Nat}{x:Vl}{B:Bk}(d:At u v b k)(f:u.ef[v]? =some x)(h:x.op=21)(j:u.blocks[b]? =some B)(w:V) :
  Pw u kp (λa=>D a\/a=v) (xs.set v ({x with args:=mS u kp b B.ez x.args},w)) (up fa v (some (mS u kp b B.ez x.args,w))) where
 len:=by rw[KD];exact c.len
 out i hi:=by
  have:=(jq.1 f).1;rw[iT _ _ (by omega)];exact c.out i hi
 By a b' k' y B' hD Ys hy hop' hB':=by
  by_cases e:a=v
  ·subst e;obtain⟨rfl,rfl⟩:=g.Hy _ _ _ _ _ d Ys;rw[f]at hy;cases hy;rw[j]at hB';cases hB';exact⟨w,MT (by rw[c.len];grind),ko _ _ _⟩
  ·rw[HO (by omega),iT _ _ e];exact c.By a b' k' y B' (hD.resolve_right e) Ys hy hop' hB'
 same a y hy hn:=by
  by_cases e:a=v
  ·simp_all
  ·rw[HO (by omega),iT _ _ e];exact c.same a y hy (by simp_all)
theorem ZB.congr{D D':Nat->Prop} {az kL:List Int}(c:ZB D az kL)(h:∀v,D v↔D' v):ZB D' az kL:=
 ⟨c.len,λv a=>c.gone v (by simp_all),λv a=>c.same v (by simp_all)⟩
theorem ZB.put{D:Nat->Prop} {az kL:List Int}(c:ZB D az kL)(v:Nat):ZB (λa=>D a\/a=v) az (kL.set v (-1)) where
 len:=by rw[KD];exact c.len
 gone a ha hl:=by
  by_cases e:a=v
  ·subst e;exact MT (by rw[c.len];exact hl)
  ·rw[HO (by omega)];exact c.gone a (ha.resolve_right e) hl
 same a ha:=by
  rw[HO (by omega)];exact c.same a (by simp_all)
def AP(u:U)(kp:Nat->Bool)(c:Bool)(i j:Nat)(v:Nat):Prop:=(∃b k,b<i/\kp b=c/\At u v b k)\/∃k,k<j/\At u v i k
section
variable{F F':Nat->Prop}{h h':Hp}{cs ds:List Pc}{Q:fo}{u:U}
theorem ei.Zf{ty:Nat}{xs:List Nat}{v q:V}(H:ei F h cs)(i:Nat)(hi:cs[i]? =some (eJ eN ty xs v)){k x:Nat}(a:xs[k]? =some x){kd:IntKind}(hq:gI 1 v (.int kd (k:Nat))=some q):ey q h=some (.I x):=by
 obtain⟨l,o,b,c⟩:=H.Jv i hi a kd
 simp_all
theorem ei.zbX(H:ei F h cs)(i:Nat){l n:Nat}(hi:cs[i]? =some (er l en [.I n])):ei F h (cs.set i (eJ eN en [n] (.slice l 0 1))):=by
 have a:=H.ok i _ hi;exact H.swap hi (.inr ⟨l,_,rfl,a.2.1,a.2.2,a.1,⟨[.I n],[],rfl,rfl,trivial⟩,rfl⟩) λm e=>e.symm
theorem ei.U7{ι:Type} [DecidableEq ι] {ty:Nat}{f:ι->Option (List Nat×V)}{xs:List Nat}{v:V}(H:ei F h (eJ eN ty xs v::cs))(n:Nat)(o:cs[n]? =some (fG ty f)){i:ι}(hi:f i=Option.none):ei F h (cs.set n (fG ty (up f i (some (xs,v))))):=by
 have h0:=H.ok 0 _ rfl;have p:=H.ok (n+1) _ o;have r:∀l,Loc v l->¬(fG ty f).kX l:=λl m=>H.BS 0 (n+1) _ _ rfl o (by omega) l m;have t:∀l,(fG ty (up f i (some (xs,v)))).kX l->Loc v l\/(fG ty f).kX l:=by
  rintro l ⟨k,ys,w,hk,u⟩;by_cases e:k=i
  ·simp_all
  ·rw[iT _ _ e]at hk;exact .inr ⟨k,ys,w,hk,u⟩
 have y:∀j c,j≠n->cs[j]? =some c->∀l,(fG ty (up f i (some (xs,v)))).kX l->¬c.kX l:=λj c d hc l m=>(t l m).elim (H.BS 0 (j+1) _ c rfl hc (by omega) l) (H.BS (n+1) (j+1) _ c o hc (by omega) l);refine⟨H.fl,λj c hc=>?_,λj k a b z A B l m g=>?_⟩
 ·rcases BJ hc with⟨_,rfl⟩|⟨_,q⟩
  ·refine ⟨λj ys w d=>?_,λj k ys w s x d hk o l m g=>?_⟩
   ·by_cases e:j=i
    ·subst e;rw[ko]at d;cases d;exact h0
    ·rw[iT _ _ e]at d;exact p.1 j ys w d
   ·by_cases e:j=i
    ·subst e;rw[ko]at d;cases d;rw[iT _ _ (by grind)]at hk;exact r l m ⟨k,s,x,hk,g⟩
    ·rw[iT _ _ e]at d;by_cases e':k=i
     ·subst e';rw[ko]at hk;cases hk;exact r l g ⟨j,ys,w,d,m⟩
     ·rw[iT _ _ e']at hk;exact p.2 j k ys w s x d hk o l m g
  ·exact H.ok (j+1) c q
 ·rcases BJ z with⟨C,rfl⟩|⟨C,p⟩
  ·grind
  ·rcases BJ A with⟨D,rfl⟩|⟨_,q⟩
   ·grind
   ·exact H.BS (j+1) (k+1) a b p q (by omega) l m g
theorem ei.Uw{a b c d e f x y z:Pc}(H:ei F h (a::b::c::d::e::f::x::y::z::cs)):ei F h (d::a::f::x::y::z::cs):=
 H.re (λi=>match i with|0=>3|1=>0|n+2=>n+5) (by grind) (by grind)
theorem BI{α:Type}{l:List α}{i:Nat}{x:α}(h:l[i]? =some x):l.take (i+1)=l.take i++[x]:=by
 obtain⟨a,rfl⟩:=jq.1 h
 simp_all
theorem uN(p:Nat->Bool)(i:Nat):(List.range (i+1)).filter p=(List.range i).filter p++if p i=true then[i] else[]:=by
 rw[VX,wB1,wBy];rfl
end
def NN(bs:List (Bk×V))(b:Nat):V:=match bs[b]? with
 |some x=>x.2
 |none=> .undef
def rm(u:U)(kp:Nat->Bool)(b:Nat):Bk:={u.blocks.getD b L7 with ez:=jG u kp b (u.blocks.getD b L7).ez}
section
variable{F F':Nat->Prop}{h h':Hp}{cs ds:List Pc}{Q:fo}{u:U}{wv wb ws jM:V}{lt ty:Nat}{az:List Int}{xs:List (Vl×V)}{bs:List (Bk×V)}{fa fn:Nat->Option (List Nat×V)}
theorem Ue(g:Ey u)(hc:WJ u.ef xs fa)(S:UP u.blocks bs fn)(cg:az.length=u.ef.length)(bw:ws.one=true)
  (H0:ei F h (eJ wk gi xs wv::eJ tM fu bs wb::fG en fa::fG en fn::eJ eZ en az jM::er lt ty [.I u.func,.I u.pc,wv,wb,ws,jM]::cs))
  (H:∀F' h' seen post kp u' n aR d I kL aS,Sn F h F' h'->E3 u.blocks.length (next u) seen post []->kp=(λb=>post.reverse.contains b)->Cut u kp u'->WJ u'.ef n d->UP u'.blocks aR I->Jc u kp az kL->
   ei F' h' (eJ wk gi n wv::eJ tM fu aR aS::fG en d::fG en I::eJ eZ en kL jM::er lt ty [.I u.func,.I u.pc,wv,aS,ws,jM]::cs)->Q (.tuple []) h') :
  cP CS mn [.ptr lt 0] h Q:=by
 refine Dd rfl rfl ?_;unfold wF;have nb:=g.walk.nb;have nv:=g.nv;have aT:bs.length=u.blocks.length:=by rw[<-S.fst,BW]
 have bx:xs.length=u.ef.length:=by rw[<-hc.fst,BW]
 have fz:∀{h:Hp} {cs:List Pc},fH 0 (.ptr lt 0)=some (.ptr lt 0):=rfl;refine ed (fI _ _) (ed (fJ _ _ _) (oF (H0.ld 5 rfl rfl) (ed (H0.len 1 rfl) ?_)));rw[aT,jY (z:=V.bool false) rfl (by decide) (by omega),fw];obtain⟨H1,s1⟩:=H0.make (E:=eB) (ty:=jb) (y:=false) (u:=V.bool false) u.blocks.length rfl rfl;generalize h.new (.cells jb 1 true false (List.replicate u.blocks.length (V.bool false)))=r at*;generalize h.next=lk at*;refine ed (fI _ _) (ed (fJ _ _ _) (ed (ld5 H1 6 rfl) ?_));have ay:fW (uC u wv wb ws)=true:=by simp only[uC,ev,H1.one 1 rfl,H1.one 2 rfl,bw];rfl
 refine Iu g.walk H1.zbF ay (H1.WW 2 4 rfl rfl S) λO vo seen post aC aU G=>?_;have H2:=H1.Zd aC aU;have bz:=s1.trans aC.back;clear aC aU ay fz s1 H1;have ae:∀b∈post.reverse,b<u.blocks.length:=λb S=>G.pre b (YL.1 S);have bA:post.reverse.length<=u.blocks.length:=by
  have r:=G.nodup;rw[Vy,GD]at r;rw[List.length_reverse];exact jD _ _ r G.pre
 generalize aV:post.reverse=M at H2 ae bA⊢;refine ed (H2.len 0 rfl) ?_
 refine Br (λk l h'=>∃(i:Nat) (kl:List Bool),l=[.ptr lt 0,.slice lk 0 u.blocks.length,vo,.I M.length,.I i]/\i+k=M.length/\kl.length=u.blocks.length/\(∀b,b<u.blocks.length->kl[b]? =some ((M.take i).contains b))/\Sn F h F h'/\
  ei F h' (eJ eN en M vo::eJ eB jb kl (.slice lk 0 u.blocks.length)::eJ wk gi xs wv::eJ tM fu bs wb::fG en fa::fG en fn::eJ eZ en az jM::er lt ty [.I u.func,.I u.pc,wv,wb,ws,jM]::cs)) ?_ (k:=M.length)
  (by grind)
 rintro k _ _ _ _ _ h3 ⟨i,kl,⟨⟩,hk,aW,T,s3,H3⟩;unfold sZ;by_cases hi:i<M.length
 ·refine gv ?_;have f:=ig hi;have aD:M.take (i+1)=M.take i++[M[i]]:=Qh hi;generalize M[i]=b at*;have bC:=ae b (AI f);obtain⟨l1,o1,x1,x2⟩:=H3.Jv 0 rfl f .i64;obtain⟨l2,o2,h4,e1,e2,_,H4,s4⟩:=H3.Ir 1 rfl (k:=b) (y:=true) (u:=V.bool true) (by omega) rfl rfl rfl;refine ed x1 (ed x2 (ed e1 ?_));rw[e2,ej];simp only[jx,mZ]at H4;refine fM ⟨k-1,by omega,i+1,kl.set b true,rfl,by omega,by simp[aW],λc aX=>?_,s3.trans s4,H4⟩
  grind
 refine ir ?_;obtain rfl:i=M.length:=by omega
 rw[Js]at T;clear hk k H2;have H3:=H3.tail;obtain⟨kp,aY⟩:∃kp:Nat->Bool,(λb=>M.contains b)=kp:=⟨_,rfl⟩
 have T:∀b,b<u.blocks.length->kl[b]? =some (kp b):=λb S=>by rw[T b S,<-aY]
 have aZ:kp=λb=>post.reverse.contains b:=by rw[aV,aY]
 have a4:fy (.slice lk 0 u.blocks.length)=some (.I u.blocks.length):=rfl;refine ed a4 ?_;rw[jY (z:=V.I 0) rfl (by decide) (by omega),fw];obtain⟨H4,s4⟩:=H3.make (E:=eN) (ty:=en) (y:=0) (u:=V.I 0) u.blocks.length rfl rfl;generalize h3.new (.cells en 1 true false (List.replicate u.blocks.length (V.I 0)))=h4 at*;generalize h3.next=ln at*;refine ed a4 ?_;have a5:=s3.trans s4;clear bz s3 s4 H3
 refine Bm (λk l h'=>∃(i:Nat) (ns:List Nat),l=[.ptr lt 0,.slice lk 0 u.blocks.length,.slice ln 0 u.blocks.length,.I (((List.range i).filter kp).length:Nat),.slice lk 0 u.blocks.length,.I u.blocks.length,.I i]/\i+k=u.blocks.length/\ns.length=u.blocks.length/\(∀b,b<i->ns[b]? =some (iY kp b))/\(∀b,i<=b->b<u.blocks.length->ns[b]? =some 0)/\Sn F h F h'/\
  ei F h' (eJ eN en ns (.slice ln 0 u.blocks.length)::eJ eB jb kl (.slice lk 0 u.blocks.length)::eJ wk gi xs wv::eJ tM fu bs wb::fG en fa::fG en fn::eJ eZ en az jM::er lt ty [.I u.func,.I u.pc,wv,wb,ws,jM]::cs)) ?_ (k:=u.blocks.length)
  ⟨0,_,rfl,by omega,UO,λb S=>by omega,λb _ S=>by rw[wBx,if_pos S],a5,H4⟩
 clear a5 H4 H0;rintro k _ _ _ _ _ _ _ h3 ⟨i,ns,⟨⟩,hk,ag,an,ao,s3,H3⟩;unfold tD;have a6:((List.range i).filter kp).length<=i:=by
  have:=U9 kp (List.range i)
  rwa [QV]at this
 by_cases hi:i<u.blocks.length
 ·refine gv ?_;obtain⟨l1,o1,x1,x2⟩:=H3.IX 1 rfl (T i hi) .i64;refine ed x1 (ed x2 (iI ?_));have hr:((List.range (i+1)).filter kp).length=((List.range i).filter kp).length+(if kp i=true then 1 else 0):=by
   rw[VX,wB1,I9,wBy];split <;> rfl
  by_cases A:kp i=true
  ·refine gw A ?_;obtain⟨l2,o2,h4,e1,e2,_,H4,s4⟩:=H3.Ir 0 rfl (k:=i) (y:=((List.range i).filter kp).length) (u:=V.I (((List.range i).filter kp).length:Nat)) (by omega) rfl rfl rfl;refine ed e1 ?_;rw[e2,ej];simp only[jx]at H4;refine fM (ru ?_);unfold mI;rw[if_pos A]at hr;refine fM ⟨k-1,by omega,i+1,ns.set i ((List.range i).filter kp).length,by rw[hr],by omega,by simp[ag],λb S=>?_,λb S aE=>?_,s3.trans s4,H4⟩
   ·by_cases e:b=i
    ·subst e;rw[MT (by omega)];unfold iY;rw[if_pos A]
    ·rw[HO λh=>e h.symm];exact an b (by omega)
   ·rw[HO (by omega)];exact ao b (by omega) aE
  ·refine fT A (ru ?_);unfold mI;rw[if_neg A,XC]at hr;refine fM ⟨k-1,by omega,i+1,ns,by rw[hr];rfl,by omega,ag,λb S=>?_,λb S aE=>ao b (by omega) aE,s3,H3⟩;by_cases e:b=i
   ·subst e;rw[ao b (iZ _) hi];unfold iY;rw[if_neg A]
   ·exact an b (by omega)
 refine ir ?_;obtain rfl:i=u.blocks.length:=by omega
 clear hk k ao a6;refine ed (fI _ _) (ed (fJ _ _ _) (oF (H3.ld 7 rfl rfl) (ed (H3.len 3 rfl) ?_)));rw[aT];have H3:ei F h3 (eJ tM fu [] .ee::eJ eN en ns (.slice ln 0 u.blocks.length)::eJ eB jb kl (.slice lk 0 u.blocks.length)::eJ wk gi xs wv::eJ tM fu bs wb::fG en fa::fG en fn::eJ eZ en az jM::er lt ty [.I u.func,.I u.pc,wv,wb,ws,jM]::cs):=H3.add .nil λ_ h=>h;have ag:∀b,b<u.blocks.length->ns[b]? =some (iY kp b):=an
 refine Bh (λk l h'=>∃(F':Nat->Prop) (i:Nat) (n:List (Vl×V)) (d:Nat->Option (List Nat×V)) (kL:List Int) (X:V),l=[.ptr lt 0,.slice lk 0 u.blocks.length,.slice ln 0 u.blocks.length,X,wb,.I u.blocks.length,.I i]/\i+k=u.blocks.length/\Sn F h F' h'/\
  Pw u kp (AP u kp true i 0) n d/\ZB (AP u kp false i 0) az kL/\
  ei F' h' (eJ tM fu (((List.range i).filter kp).map λb=>(rm u kp b,NN bs b)) X::eJ eN en ns (.slice ln 0 u.blocks.length)::eJ eB jb kl (.slice lk 0 u.blocks.length)::eJ wk gi n wv::eJ tM fu bs wb::fG en d::fG en fn::eJ eZ en kL jM::er lt ty [.I u.func,.I u.pc,wv,wb,ws,jM]::cs)) ?_ (k:=u.blocks.length)
  ⟨F,0,xs,fa,az,.ee,rfl,by omega,s3,?_,?_,H3⟩
 rotate_left
 ·refine ⟨bx,λi hi=>hc.out i (by omega),λv b k x B hD=>?_,λv x f _=>?_⟩
  ·rcases hD with⟨_,_,h,_⟩|⟨_,h,_⟩ <;> omega
  ·rw[<-hc.fst,AJ]at f
   cases hy:xs[v]? with
   |none=>rw[hy]at f;cases f
   | some y=>
     rw[hy]at f;cases f;exact⟨y.2,rfl,hc.row v y.1 y.2 hy⟩
 ·refine⟨rfl,λv hD=>?_,λv _=>rfl⟩;rcases hD with⟨_,_,h,_⟩|⟨_,h,_⟩ <;> omega
 clear H3 s3 hi an;rintro k _ _ _ X _ _ _ h4 ⟨K,i,n,d,kL,_,⟨⟩,hk,s4,D,aa,H4⟩;unfold tH;by_cases hi:i<u.blocks.length
 ·refine gv ?_;obtain⟨⟨B,wn⟩,N⟩:∃y,bs[i]? =some y:=⟨_,ig (by omega)⟩
  have U:u.blocks[i]? =some B:=by rw[<-S.fst,AJ,N];rfl
  have aF:NN bs i=wn:=by unfold NN;rw[N]
  obtain ⟨l1,o1,w1,x1,x2,⟨bv,bp,rfl,iv,ip,aG⟩,_⟩:=H4.VF 4 rfl N .i64;have x1:gI 6 wb (.I i)=some (.ptr l1 o1):=x1;have x2:gy 6 (.ptr l1 o1) h4=some (.agg (lB B bv wn bp)):=x2;refine ed x1 (ed x2 ?_);refine iH H4 rfl rfl (by simp only[lB,ev,iv.one,ip.one,aG];rfl) λh5 H5 s5=>?_;generalize h4.next=lb at*;have iv:=iv.since s5;have ip:=ip.since s5;clear x1 x2;obtain⟨l2,o2,y1,y2⟩:=H5.IX 3 rfl (T i hi) .i64;refine ed y1 (ed y2 (ue ?_));have a7:∀c v,AP u kp c (i+1) 0 v↔AP u kp c i 0 v\/(kp i=c/\∃k,At u v i k):=λc v=>by
   constructor
   ·rintro(⟨b,k,r,O,h3⟩|⟨k,r,_⟩)
    ·by_cases e:b=i
     ·subst e;exact .inr ⟨O,k,h3⟩
     ·exact .inl (.inl ⟨b,k,by omega,O,h3⟩)
    ·omega
   ·rintro((⟨b,k,r,O,h3⟩|⟨k,r,_⟩)|⟨r,k,O⟩)
    ·exact .inl ⟨b,k,by omega,O,h3⟩
    ·omega
    ·exact .inl ⟨i,k,by omega,r,O⟩
  have ap:∀c j w,B.ef[j]? =some w->∀v,AP u kp c i (j+1) v↔AP u kp c i j v\/v=w:=λc j w hw v=>by
   constructor
   ·rintro (r|⟨k,r,O⟩)
    ·exact .inl (.inl r)
    ·by_cases e:k=j
     ·subst e;obtain⟨B',e1,e2⟩:=O
      simp_all
     ·exact .inl (.inr ⟨k,by omega,O⟩)
   ·rintro((r|⟨k,r,O⟩)|rfl)
    ·exact .inl r
    ·exact .inr ⟨k,by omega,O⟩
    ·exact .inr ⟨j,by omega,B,U,hw⟩
  have aH:∀c,kp i=c->∀v,AP u kp c i B.ef.length v↔AP u kp c (i+1) 0 v:=λc bD v=>by
   rw[a7];constructor
   ·rintro(r|⟨k,r,O⟩)
    ·exact .inl (.inl r)
    ·exact .inr ⟨bD,k,O⟩
   ·rintro((r|⟨k,r,_⟩)|⟨_,k,B',e1,e2⟩)
    ·exact .inl r
    ·omega
    ·rw[U]at e1;cases e1;exact .inr ⟨k,(jq.1 e2).1,B,U,e2⟩
  have cd:B.ef.length<=u.ef.length:=by
   refine jD u.ef.length B.ef ?_ λv hv=>?_
   ·rw[List.nodup_iff_pairwise_ne,wA9];intro a b ha S ci e;have:=(g.Hy B.ef[a] i a i b ⟨B,U,ig ha⟩ ⟨B,U,by rw[e];exact ig S⟩).2;omega
   ·obtain⟨k,hk⟩:=mm.1 hv;exact g.jA v i k ⟨B,U,hk⟩
  by_cases A:kp i=true
  ·refine gw A ?_;have bE:=g.pre i B U;have aI:u.blocks.getD i L7=B:=by rw[EN,U];rfl
   refine oF (H5.ld 0 rfl rfl) (ed ip.len ?_);obtain⟨c,aJ⟩:∃c:Nat->Bool,(λj=>kp (B.ez.getD j 0)&&(next u (B.ez.getD j 0)).contains i)=c:=⟨_,rfl⟩
   have aK:(List.range B.ez.length).filter c=qw u kp i B.ez:=by rw[<-aJ];rfl
   have H5:=(H5.add (p:=eJ eN en [] .ee) .nil λ_ h=>h).add (p:=eJ eN en [] .ee) .nil λ_ h=>h
   refine A1 (λk' l h'=>∃(j:Nat) (W s:V),l=[.ptr lt 0,.slice lk 0 u.blocks.length,.slice ln 0 u.blocks.length,X,.I i,.ptr lb 0,W,s,wb,.I u.blocks.length,.I i,bp,.I B.ez.length,.I j]/\j+k' = B.ez.length/\Sn F h K h'/\Sn K h5 K h'/\
    ei K h' (eJ eN en (((List.range j).filter c).map λj=>iY kp (B.ez.getD j 0)) s::eJ eN en ((List.range j).filter c) W::er lb 41 (lB B bv wn bp)::eJ tM fu (((List.range i).filter kp).map λb=>(rm u kp b,NN bs b)) X::eJ eN en ns (.slice ln 0 u.blocks.length)::eJ eB jb kl (.slice lk 0 u.blocks.length)::eJ wk gi n wv::eJ tM fu bs wb::fG en d::fG en fn::eJ eZ en kL jM::er lt ty [.I u.func,.I u.pc,wv,wb,ws,jM]::cs)) ?_ (k:=B.ez.length)
    ⟨0,.ee,.ee,rfl,by omega,s4.trans s5,Sn.refl _ _,H5⟩
   clear H5 H4;rintro k' _ _ _ _ _ _ W s _ _ _ _ _ _ h6 ⟨j,_,_,⟨⟩,ai,s6,ab,R⟩;unfold tJ;have aX:((List.range j).filter c).length<=j:=by
    have:=U9 c (List.range j)
    rwa [QV]at this
   by_cases hj:j<B.ez.length
   ·refine gv ?_;have f:=ig hj;have aq:=bE.2 B.ez[j] (BG hj);have a8:B.ez.getD j 0=B.ez[j]:=by rw[EN,f];rfl
    generalize B.ez[j]=p at*;obtain⟨l1,o1,_,x1,x2⟩:=(ip.since ab).nat f .i64;obtain⟨l2,o2,y1,y2⟩:=R.IX 5 rfl (T p aq) .i64;refine ed x1 (ed x2 (ed y1 (ed y2 ?_)));have a9:=uN c j;have ar:c j=(kp p&&(next u p).contains i):=by rw[<-aJ];simp only[a8]
    cases hkp':kp p with
    | false=>
      refine gO (gO (gO (gO (gO (gO (gO (gO (gO (gO (DX ?_))))))))));refine ed (show l0 (.bool false) .undef (.bool false)=some (.bool false) from rfl) (iI (fT (by decide) (mH ?_)));unfold km;refine kh (m:=1) (by omega) (by omega) ⟨k'-1,by omega,j+1,W,s,rfl,by omega,s6,ab,?_⟩;rw[a9,show c j=false by rw[ar,hkp'];rfl]
      simpa using R
    | true=>
      obtain⟨⟨P,wp⟩,aL⟩:∃y,bs[p]? =some y:=⟨_,ig (by omega)⟩
      have hP:u.blocks[p]? =some P:=by rw[<-S.fst,AJ,aL];rfl
      have bG:next u p=P.next:=by unfold next;rw[hP]
      obtain⟨l3,o3,w3,z1,_,⟨pv,pp,rfl,_,_,_⟩,z2⟩:=R.VF 7 rfl aL .i64;have z1:gI 6 wb (.I (p:Nat))=some (.ptr l3 o3):=z1;have z3:=z2 3 wp rfl;refine gj (ed rfl (gj (ed (fI _ _) (gj (ed (fJ _ _ _) (gj (ed (fJ _ _ _) (gj (ed (R.ld 11 rfl rfl) (gj (ed rfl (gj (ed z1 (gj (ed (fJ _ _ _) (gj (ed z3 (gj (ed rfl (AQ ?_))))))))))))))))))));refine zaD (R.rows 9 rfl (S.row p P wp aL)).read (by have:=g.walk.two p P hP;omega) i ?_;rw[<-bG];refine ed (by rfl) (iI ?_);rw[hkp',Yq]at ar;by_cases aj:(next u p).contains i=true
      ·refine gw aj ?_
       rw[aj]at ar;rw[pY,ic];obtain⟨Y,s7⟩:=R.zt en (gJ [j]);have Y:ei K (h6.new (.cells 3 1 true false (gJ [j]))) (er h6.next 3 (gJ [j])::_):=Y;have s7:Sn K h6 K (h6.new (.cells 3 1 true false (gJ [j]))):=s7;generalize h6.new (.cells 3 1 true false (gJ [j]))=h7 at*;generalize h6.next=r1 at*;obtain⟨l4,o4,n1,n2⟩:=Y.Jv 5 rfl (ag p aq) .i64;refine ed n1 (ed n2 ?_);rw[pY,ic];obtain⟨J,s8⟩:=Y.zt en (gJ [iY kp p]);have J:ei K (h7.new (.cells 3 1 true false (gJ [iY kp p]))) (er h7.next 3 (gJ [iY kp p])::er r1 3 (gJ [j])::_):=J;have s8:Sn K h7 K (h7.new (.cells 3 1 true false (gJ [iY kp p]))):=s8;generalize h7.new (.cells 3 1 true false (gJ [iY kp p]))=h8 at*;generalize h7.next=r2 at*;refine⟨⟨J.get 0 rfl,bq⟩,J.Zf 6 rfl (ag p aq) n1,⟨J.get 1 rfl,bq⟩,?_⟩;have J:=J.zbX 1 rfl;simp only[jx,mZ]at J;obtain⟨va,h9,e9,n9,Z,s9⟩:=J.zah 3 1 rfl rfl (kE:=8) (by decide) (by decide) (by simp;omega);have ak:eQ 3 1 8 W (.slice r1 0 1) h8=some (.val va h9):=e9;simp only[jx,mZ]at Z;rw[ak,ej];refine⟨n9,⟨Z.get 0 rfl,bq⟩,Z.Zf 6 rfl (ag p aq) n1,?_⟩;have Z:=Z.zbX 0 rfl;simp only[jx]at Z;obtain⟨vc,bH,bI,bJ,al,bK⟩:=Z.zah 2 0 rfl rfl (kE:=8) (by decide) (by decide) (by simp;omega);have ba:eQ 3 1 8 s (.slice r2 0 1) h9=some (.val vc bH):=bI;rw[ba,ej];simp only[jx,mZ]at al;refine⟨bJ,mH ?_⟩;unfold km;have sA:=((s7.trans s8).trans s9).trans bK;refine kh (m:=1) (by omega) (by omega) ⟨k'-1,by omega,j+1,va,vc,rfl,by omega,s6.trans sA,ab.trans sA,?_⟩;rw[a9,ar,if_pos rfl,Qi,Xb,Vy,a8];exact al.tail.tail
      ·refine fT aj (mH ?_)
       unfold km;refine kh (m:=1) (by omega) (by omega) ⟨k'-1,by omega,j+1,W,s,rfl,by omega,s6,ab,?_⟩
       simp_all
   refine ir ?_;obtain rfl:j=B.ez.length:=by omega
   rw[aK]at R;have cj:(qw u kp i B.ez).length<=700:=by rw[<-aK];omega
   have bL:∀m∈qw u kp i B.ez,m<B.ez.length:=λm hm=>by
    unfold qw at hm;exact Re.1 (Ic.1 hm).1
   have bb:(qw u kp i B.ez).map (λj=>iY kp (B.ez.getD j 0))=jG u kp i B.ez:=rfl;rw[bb]at R;clear ai k' aX hj aK aJ c bb;refine oF (R.ld 2 rfl rfl) (ed iv.len ?_);have bc:=iv.since ab;clear iv ip ab
   refine Bc (λk' l h'=>∃(j:Nat) (n:List (Vl×V)) (d:Nat->Option (List Nat×V)),l=[.ptr lt 0,.slice lk 0 u.blocks.length,.slice ln 0 u.blocks.length,X,.ptr lb 0,W,s,wb,.I u.blocks.length,.I i,bv,.I B.ef.length,.I j]/\j+k' = B.ef.length/\Sn F h K h'/\Sn K h6 K h'/\Pw u kp (AP u kp true i j) n d/\
    ei K h' (eJ eN en (jG u kp i B.ez) s::eJ eN en (qw u kp i B.ez) W::er lb 41 (lB B bv wn bp)::eJ tM fu (((List.range i).filter kp).map λb=>(rm u kp b,NN bs b)) X::eJ eN en ns (.slice ln 0 u.blocks.length)::eJ eB jb kl (.slice lk 0 u.blocks.length)::eJ wk gi n wv::eJ tM fu bs wb::fG en d::fG en fn::eJ eZ en kL jM::er lt ty [.I u.func,.I u.pc,wv,wb,ws,jM]::cs)) ?_ (k:=B.ef.length)
    ⟨0,n,d,rfl,by omega,s6,Sn.refl _ _,D,R⟩
   clear R s6 D;rintro k' _ _ _ _ _ _ _ _ _ _ _ _ _ h7 ⟨j,n,d,⟨⟩,ai,s7,au,D,Y⟩;unfold tu;by_cases hj:j<B.ef.length
   ·refine gv ?_;have f:=ig hj;generalize B.ef[j]=v at*;have L:At u v i j:=⟨B,U,f⟩
    have aw:=g.jA v i j L;obtain⟨l1,o1,_,x1,x2⟩:=(bc.since au).nat f .i64;obtain⟨x,ax⟩:∃x,u.ef[v]? =some x:=⟨_,ig aw⟩
    have bQ:¬AP u kp true i j v:=by
     rintro(⟨b,k,r,_,O⟩|⟨k,r,O⟩)
     ·have:=(g.Hy _ _ _ _ _ O L).1;omega
     ·have:=(g.Hy _ _ _ _ _ O L).2;omega
    obtain⟨w,aM,bR⟩:=D.same v x ax λh=>bQ h.2;obtain⟨lv,ov,wl,y1,_,⟨rfl,w1⟩,y2⟩:=Y.VF 6 rfl aM .i64;have y1:gI 6 wv (.I v)=some (.ptr lv ov):=y1;refine ed x1 (ed x2 (ed (fI _ _) (ed (fJ _ _ _) (oF (Y.ld 11 rfl rfl) (ed y1 (oN (y2 0 _ rfl) (fP ?_)))))));by_cases ae:x.op=21
    ·refine gw (by show(x.op:Int)=21;omega) (ed (Y.len 1 rfl) ?_);have bS:=g.args v x ax;have ce:=g.By v i j x B L ax ae U;have J:=Y.add (p:=eJ eN en [] .ee) .nil λ_ h=>h
     refine Bj (λaN l h'=>∃(m:Nat) (vr:V),l=[.ptr lt 0,.slice lk 0 u.blocks.length,.slice ln 0 u.blocks.length,X,.ptr lb 0,W,s,.ptr lv ov,vr,wb,.I u.blocks.length,.I i,bv,.I B.ef.length,.I j,W,.I ((qw u kp i B.ez).length:Nat),.I m]/\m+aN=(qw u kp i B.ez).length/\Sn K h7 K h'/\
      ei K h' (eJ eN en (((qw u kp i B.ez).take m).map λj=>x.args.getD j 0) vr::eJ eN en (jG u kp i B.ez) s::eJ eN en (qw u kp i B.ez) W::er lb 41 (lB B bv wn bp)::eJ tM fu (((List.range i).filter kp).map λb=>(rm u kp b,NN bs b)) X::eJ eN en ns (.slice ln 0 u.blocks.length)::eJ eB jb kl (.slice lk 0 u.blocks.length)::eJ wk gi n wv::eJ tM fu bs wb::fG en d::fG en fn::eJ eZ en kL jM::er lt ty [.I u.func,.I u.pc,wv,wb,ws,jM]::cs)) ?_ (k:=(qw u kp i B.ez).length)
      ⟨0,.ee,rfl,by omega,Sn.refl _ _,J⟩
     clear J Y y2;rintro aN _ _ _ _ _ _ _ _ vr _ _ _ _ _ _ _ _ _ h8 ⟨m,_,⟨⟩,cf,aO,J⟩;unfold tq;obtain⟨bd,be,wl,y3,_,⟨rfl,_⟩,y4⟩:=J.VF 7 rfl aM .i64;have y3:gI 6 wv (.I v)=some (.ptr bd be):=y3;rw[y1]at y3;obtain⟨rfl,rfl⟩:lv=bd/\ov=be:=by cases y3;exact⟨rfl,rfl⟩
     clear y3;by_cases hm:m<(qw u kp i B.ez).length
     ·refine gv ?_;have hq:=ig hm;have aD:=BI hq;have cl:=bL _ (BG hm);generalize (qw u kp i B.ez)[m]=q at*;obtain⟨l2,o2,z1,z2⟩:=J.Jv 2 rfl hq .i64;have ha:=ig (show q<x.args.length by omega);have bU:x.args.getD q 0=x.args[q]:=by rw[EN,ha];rfl
      generalize x.args[q]=a at*;obtain⟨l3,o3,_,z3,z4⟩:=(J.rows 9 rfl bR).read.nat ha .i64;refine ed z1 (ed z2 (oN (y4 4 _ rfl) (ed z3 (ed z4 ?_))));rw[pY,fw];obtain⟨va,h9,e9,_,Z,s9⟩:=J.yI 0 rfl (kE:=8) (EI:=3) (y:=a) (w:=gJ [a]) (ro:=false) rfl (by decide) (by decide) (by simp;omega);have ak:eQ 3 1 8 vr (.slice h8.next 0 1) (h8.new (.cells 3 1 true false (gJ [a])))=some (.val va h9):=e9;rw[ak,ej];simp only[jx]at Z;refine fM ⟨aN-1,by omega,m+1,va,rfl,by omega,aO.trans s9,?_⟩;rw[aD,Qi,Xb,Vy,bU];exact Z
     refine ir ?_;obtain rfl:m=(qw u kp i B.ez).length:=by omega
     rw [Js]at J;have J:ei K h8 (eJ eN en (mS u kp i B.ez x.args) vr::_):=J;have bf:=J.one 0 rfl;have aA:=jq.1 aM;obtain⟨lq,h9,e1,e2,_,Z,s9⟩:=J.stF 7 rfl (k:=v) (j:=4) (y:=({x with args:=mS u kp i B.ez x.args},vr)) (a:=vr) aA.1 (by decide) bf (λw' hw=>by
      rw[aA.2]at hw;obtain⟨rfl,_⟩:=hw;exact⟨rfl,bf⟩)
     have e1:gI 6 wv (.I v)=some (.ptr lq (v*6)):=e1;rw[y1]at e1;obtain⟨rfl,rfl⟩:lv=lq/\ov=v*6:=by cases e1;exact⟨rfl,rfl⟩
     have e2:gG 1 (.ptr lv (v*6+4)) vr h8=some (.val .undef h9):=e2;refine ed (fI _ _) (ed (fJ _ _ _) ?_);rw[e2,ej];simp only[jx,mZ]at Z;have al:=Z.Pl 9 rfl (up d v Option.none) id (by grind[ko,iT]) (λ_ _ _ _ _ _ e=>e);simp only[jx,mZ]at al;have aP:=al.U7 8 rfl (i:=v) (ko _ _ _);simp only[jx,mZ]at aP;have bg:up (up d v Option.none) v (some (mS u kp i B.ez x.args,vr))=up d v (some (mS u kp i B.ez x.args,vr)):=funext (by grind[ko,iT]);rw[bg]at aP;refine rQ ?_;unfold mD;have c2:=D.put g L ax ae U vr;refine fM ⟨k'-1,by omega,j+1,_,_,rfl,by omega,(s7.trans aO).trans s9,(au.trans aO).trans s9,?_,aP⟩;exact c2.more (λa ha=> .inl ((ap true j v f a).1 ha)) λa ha=>(ap true j v f a).2 ha
    ·refine fT (by show ¬(x.op:Int)=21;omega) (rQ ?_);unfold mD;refine fM ⟨k'-1,by omega,j+1,n,d,rfl,by omega,s7,au,D.more (λa ha=>?_) (λa ha=>(ap true j v f a).2 (.inl ha)),Y⟩
     grind
   refine ir ?_;obtain rfl:j=B.ef.length:=by omega
   clear ai k' hj;have bV:=bc.since au;obtain⟨J,s8,rp⟩:=Y.jQ 0 rfl;simp only[jx]at J;have bW:=bV.since s8;generalize (λl=>K l\/Loc s l)=F8 at*;have J:=J.tail.tail;obtain⟨h9,e9,_,Z,s9⟩:=J.st 0 (o:=4) (u:=s) rfl (by simp[lB]) rp.one;refine ed (fJ _ _ _) ?_;have ak:gG 1 (.ptr lb (0+4)) s h7=some (.val .undef h9):=by rw[wX];exact e9
   rw[ak,ej];simp only[jx]at Z;have bh:rm u kp i = {B with ez:=jG u kp i B.ez}:=by unfold rm;rw[aI]
   have aj:(lB B bv wn bp).set 4 s=lB (rm u kp i) bv wn s:=by rw[bh];rfl
   rw [aj]at Z;have bi:=bW.since s9;have bj:=rp.since s9;refine ed (Z.C9 0 rfl rfl) ?_;have Z:=Z.tail;rw[se (sz:=6) (w:=lB (rm u kp i) bv wn s) rfl rfl (by simp only[lB,ev,bi.one,aG,bj.one];rfl),fw];have cm:((List.range i).filter kp).length<=i:=by
    have:=U9 kp (List.range i)
    rwa [QV]at this
   obtain⟨bm,hA,eA,_,HA,sA⟩:=Z.yI 0 rfl (kE:=96) (EI:=41) (y:=(rm u kp i,wn)) (w:=lB (rm u kp i) bv wn s) (ro:=false) (by rw[bh];exact⟨bv,s,rfl,bi,bj,aG⟩) (by decide) (by decide) (by simp;omega);have bX:eQ 41 6 96 X (.slice h9.next 0 1) (h9.new (.cells 41 6 true false (lB (rm u kp i) bv wn s)))=some (.val bm hA):=eA;rw[bX,ej];simp only[jx]at HA;refine rC ?_;unfold mN;refine fM ⟨k-1,by omega,F8,i+1,n,d,kL,bm,rfl,by omega,((s7.trans s8).trans s9).trans sA,?_,?_,?_⟩
   ·exact D.more (λv r=> .inl ((aH true A v).2 r)) λv r=>(aH true A v).1 r
   ·refine aa.congr λv=>?_
    simp_all
   ·rw[uN,A,if_pos rfl,Qi,Xb,Vy,aF];exact HA
  ·refine fT A ?_;have A:kp i=false:=wBh.2 A;refine oF (H5.ld 0 rfl rfl) (ed iv.len ?_);have H5:=H5.tail
   refine A8 (λk' l h'=>∃(j:Nat) (kL:List Int),l=[.ptr lt 0,.slice lk 0 u.blocks.length,.slice ln 0 u.blocks.length,X,wb,.I u.blocks.length,.I i,bv,.I B.ef.length,.I j]/\j+k' = B.ef.length/\Sn F h K h'/\Sn K h5 K h'/\ZB (AP u kp false i j) az kL/\
    ei K h' (eJ tM fu (((List.range i).filter kp).map λb=>(rm u kp b,NN bs b)) X::eJ eN en ns (.slice ln 0 u.blocks.length)::eJ eB jb kl (.slice lk 0 u.blocks.length)::eJ wk gi n wv::eJ tM fu bs wb::fG en d::fG en fn::eJ eZ en kL jM::er lt ty [.I u.func,.I u.pc,wv,wb,ws,jM]::cs)) ?_ (k:=B.ef.length)
    ⟨0,kL,rfl,by omega,s4.trans s5,Sn.refl _ _,aa,H5⟩
   clear H5 H4;rintro k' _ _ _ X _ _ _ _ _ _ h6 ⟨j,kL,⟨⟩,ai,s6,ab,aa,R⟩;unfold sQ;by_cases hj:j<B.ef.length
   ·refine gv ?_;have f:=ig hj;generalize B.ef[j]=v at*;have aw:=g.jA v i j ⟨B,U,f⟩;obtain⟨l1,o1,_,x1,x2⟩:=(iv.since ab).nat f .i64;refine ed x1 (ed x2 (oN (R.ld 8 rfl rfl) ?_));obtain⟨l2,o2,h7,e1,e2,_,Y,s7⟩:=R.Ir 7 rfl (k:=v) (y:=(-1:Int)) (u:=V.I (-1)) (by rw[aa.len];omega) rfl rfl rfl;refine ed e1 ?_;rw[e2,ej];simp only[jx,mZ]at Y;exact fM ⟨k'-1,by omega,j+1,kL.set v (-1),rfl,by omega,s6.trans s7,ab.trans s7,(aa.put v).congr λa=>(ap false j v f a).symm,Y⟩
   refine ir (rC ?_);unfold mN;obtain rfl:j=B.ef.length:=by omega
   refine fM ⟨k-1,by omega,K,i+1,n,d,kL,_,rfl,by omega,s6,?_,aa.congr (aH false A),?_⟩
   ·refine D.more (λv r=> .inl ?_) λv r=>(a7 true v).2 (.inl r)
    simp_all
   ·rw[uN,A];simpa using R
 refine ir ?_;obtain rfl:i=u.blocks.length:=by omega
 clear hk k hi;have aW:(kU u kp).length<=u.blocks.length:=by
  have:=U9 kp (List.range u.blocks.length)
  rwa [QV]at this
 rw[show(List.range u.blocks.length).filter kp=kU u kp from rfl]at H4;refine ed (H4.len 0 rfl) ?_;rw[BW];have cn:(kU u kp).Nodup:=Zw.filter _;have bn:∀b∈kU u kp,b<u.blocks.length:=λb S=>Re.1 (Ic.1 S).1
 refine AY (λk l h'=>∃(i:Nat) (I:Nat->Option (List Nat×V)),l=[.ptr lt 0,.slice ln 0 u.blocks.length,X,.I ((kU u kp).length:Nat),.I i]/\i+k=(kU u kp).length/\Sn F h K h'/\
  (∀b B w,bs[b]? =some (B,w)->I b=some (if b∈(kU u kp).take i then B.next.map (iY kp) else B.next,w))/\
  ei K h' (eJ tM fu ((kU u kp).map λb=>(rm u kp b,NN bs b)) X::eJ eN en ns (.slice ln 0 u.blocks.length)::eJ eB jb kl (.slice lk 0 u.blocks.length)::eJ wk gi n wv::eJ tM fu bs wb::fG en d::fG en I::eJ eZ en kL jM::er lt ty [.I u.func,.I u.pc,wv,wb,ws,jM]::cs)) ?_ (k:=(kU u kp).length)
  ⟨0,fn,rfl,by omega,s4,λb B w bY=>by rw[S.row b B w bY];simp,H4⟩
 clear H4 s4;rintro k _ _ _ _ _ h5 ⟨i,I,⟨⟩,hk,s5,ah,H5⟩;unfold tI;by_cases hi:i<(kU u kp).length
 ·refine gv ?_;have f:=ig hi;have aD:=BI f;have bC:=bn _ (BG hi);have bZ:(kU u kp)[i] ∉ (kU u kp).take i:=by grind[mm,jq,KN,wBW,pV]
  generalize (kU u kp)[i]=b at*;obtain⟨⟨B,wn⟩,N⟩:∃y,bs[b]? =some y:=⟨_,ig (by omega)⟩
  have U:u.blocks[b]? =some B:=by rw[<-S.fst,AJ,N];rfl
  have aF:NN bs b=wn:=by unfold NN;rw[N]
  have bo:((kU u kp).map λb=>(rm u kp b,NN bs b))[i]? =some (rm u kp b,wn):=by rw[AJ,f,<-aF];rfl
  have co:=g.walk.two b B U;have b4:∀t∈B.next,t<u.blocks.length:=λt ht=>g.walk.nx b t (by unfold next;rw[U];exact ht);have ac:=ah b B wn N;rw[if_neg bZ]at ac;obtain⟨lo,oo,w1,z1,_,⟨pv,pp,rfl,_,_,_⟩,z2⟩:=H5.VF 0 rfl bo .i64;have z1:gI 6 X (.I i)=some (.ptr lo oo):=z1;have z3:=z2 3 wn rfl;refine ed z1 (oF z3 (ed (H5.rows 6 rfl ac).len ?_))
  refine Bu (λk' l h'=>∃(j:Nat) (I:Nat->Option (List Nat×V)),l=[.ptr lt 0,.slice ln 0 u.blocks.length,X,.I i,.I ((kU u kp).length:Nat),.I i,wn,.I B.next.length,.I j]/\j+k' = B.next.length/\Sn F h K h'/\
   (∀c B w,c≠b->bs[c]? =some (B,w)->I c=some (if c∈(kU u kp).take i then B.next.map (iY kp) else B.next,w))/\I b=some ((B.next.take j).map (iY kp)++B.next.drop j,wn)/\
   ei K h' (eJ tM fu ((kU u kp).map λb=>(rm u kp b,NN bs b)) X::eJ eN en ns (.slice ln 0 u.blocks.length)::eJ eB jb kl (.slice lk 0 u.blocks.length)::eJ wk gi n wv::eJ tM fu bs wb::fG en d::fG en I::eJ eZ en kL jM::er lt ty [.I u.func,.I u.pc,wv,wb,ws,jM]::cs)) ?_ (k:=B.next.length)
   ⟨0,I,rfl,by omega,s5,λc B w _ hc=>ah c B w hc,ac,H5⟩
  clear H5 s5 z2 z3 ac ah;rintro k' _ _ _ _ _ _ _ _ _ h6 ⟨j,I,⟨⟩,ai,s6,ah,ac,R⟩;unfold tL;obtain⟨b5,b6,w1,z4,_,⟨pv,pp,rfl,_,_,_⟩,z2⟩:=R.VF 0 rfl bo .i64;have z4:gI 6 X (.I i)=some (.ptr b5 b6):=z4;have z3:=z2 3 wn rfl;by_cases hj:j<B.next.length
  ·refine gv ?_;have hn:=ig hj;have aB:((B.next.take j).map (iY kp)++B.next.drop j)[j]? =some B.next[j]:=by
    rw[WK (by simp;omega)];simp[KN,wBr (Nat.le_of_lt hj)]
   have br:((B.next.take j).map (iY kp)++B.next.drop j).set j (iY kp B.next[j])=(B.next.take (j+1)).map (iY kp)++B.next.drop (j+1):=by
    have hL:((B.next.take j).map (iY kp)).length=j:=by rw[BW,KN];omega
    rw[BI hn,Qi,Jx,V9 hj,List.set_append_right _ _ (by omega),hL,Nat.sub_self];rfl
   have aQ:j<((B.next.take j).map (iY kp)++B.next.drop j).length:=(jq.1 aB).1;have b7:=b4 _ (BG hj);generalize B.next[j]=t at*;obtain⟨l1,o1,_,x1,x2⟩:=(R.rows 6 rfl ac).read.nat aB .i64;obtain⟨l2,o2,y1,y2⟩:=R.Jv 1 rfl (ag t b7) .i64;obtain⟨l3,o3,h7,e1,e2,n7,Y,s7⟩:=R.Wu 6 rfl ac aQ (iY kp t);refine ed x1 (ed x2 (ed z4 (oF z3 (ed y1 (ed y2 (ed e1 ?_))))));rw[e2,ej];simp only[jx,mZ]at Y;refine⟨n7,fM ⟨k'-1,by omega,j+1,_,rfl,by omega,s6.trans s7,λc C w bt hc=>?_,?_,Y⟩⟩
   ·rw[iT _ _ bt];exact ah c C w bt hc
   ·rw[ko,br]
  refine ir ?_;obtain rfl:j=B.next.length:=by omega
  rw[Js,List.drop_length,GD]at ac;refine fM ⟨k-1,by omega,i+1,I,rfl,by omega,s6,λc C w hc=>?_,R⟩
  grind
 refine ir ?_;obtain rfl:i=(kU u kp).length:=by omega
 rw [Js]at ah;clear hk k hi;obtain⟨h6,e6,_,R,s6⟩:=H5.st 8 (o:=3) (u:=X) rfl (by simp) (H5.one 0 rfl);refine ed (fI _ _) (ed (fJ _ _ _) (ed (fJ _ _ _) ?_));have b8:gG 1 (.ptr lt (0+0+3)) X h5=some (.val .undef h6):=e6;rw[b8,ej];simp only[jx,mZ]at R;have b9:∀b,b∈kU u kp->∃B,u.blocks[b]? =some B/\bs[b]? =some (B,NN bs b)/\u.blocks.getD b L7=B:=λb ca=>by
  obtain⟨⟨B,w⟩,N⟩:∃y,bs[b]? =some y:=⟨_,ig (by have:=bn b ca;omega)⟩
  have U:u.blocks[b]? =some B:=by rw[<-S.fst,AJ,N];rfl
  exact⟨B,U,by unfold NN;rw[N],by rw[EN,U];rfl⟩
 have Y:=R.Up (E':=tM) (ys:=(kU u kp).map λb=>(BT u kp b,NN bs b)) 0 rfl rfl (by simp) λk x y ws f hy hr=>by
  rw[AJ]at f hy
  cases hkk:(kU u kp)[k]? with
  |none=>rw[hkk]at f;cases f
  | some b=>
    rw[hkk]at f hy;cases f;cases hy;exact hr
 simp only[jx]at Y;obtain⟨am,bu⟩:∃am:Nat->Option (List Nat×V),∀k,am k=match (kU u kp)[k]? with|some b=>I b|none=>Option.none:=⟨_,λ_=>rfl⟩
 have cb:∀{k b:Nat},(kU u kp)[k]? =some b->am k=I b:=λhk=>by rw[bu,hk]
 have J:=Y.Pl 6 rfl am (λk=>(kU u kp).getD k 0) (by grind) (by grind[kU,pV]);simp only[jx,mZ]at J;have hU:∀c v,AP u kp c u.blocks.length 0 v↔∃b k,At u v b k/\kp b=c:=λc v=>by
  constructor
  ·rintro(⟨b,k,_,h3,h4⟩|⟨k,h3,_⟩)
   ·exact⟨b,k,h4,h3⟩
   ·omega
  ·rintro⟨b,k,h4,h3⟩;exact .inl ⟨b,k,(let⟨_,h,_⟩:=h4;(jq.1 h).1),h3,h4⟩
 refine H K h6 seen post kp ⟨u.func,u.pc,n.map Prod.fst,(kU u kp).map (BT u kp),u.eh⟩ n ((kU u kp).map λb=>(BT u kp b,NN bs b)) d am kL X (s5.trans s6) G aZ ⟨rfl,rfl,rfl,rfl,by rw[BW,D.len],λv b k x B L f ae T U=>?_,λv x f hn=>?_⟩ ⟨rfl,λv x w f=>?_,λv hv=>D.out v (by rw[D.len]at hv;exact hv)⟩ ⟨by rw[List.map_map];rfl,λk B w f=>?_,λk hk=>?_⟩ ⟨aa.len,λv b k L T hv=>aa.gone v ((hU false v).2 ⟨b,k,L,T⟩) hv,λv hn=>aa.same v λhD=>hn ((hU false v).1 hD)⟩ J.Uw
 ·obtain⟨w,r,_⟩:=D.By v b k x B ((hU true v).2 ⟨b,k,L,T⟩) L f ae U;rw[AJ,r];rfl
 ·obtain⟨w,r,_⟩:=D.same v x f λ⟨r,O⟩=>hn ⟨r,(hU true v).1 O⟩;rw[AJ,r];rfl
 ·have aw:v<u.ef.length:=by rw[<-D.len];exact(jq.1 f).1
  have hy:=ig aw;generalize u.ef[v]=y at*;by_cases hD:y.op=21/\AP u kp true u.blocks.length 0 v
  ·obtain⟨b,k,L,T⟩:=(hU true v).1 hD.2;obtain⟨B,U,cp⟩:=id L;obtain⟨w',r,O⟩:=D.By v b k y B hD.2 L hy hD.1 U;rw[f]at r;cases r;exact O
  ·obtain⟨w',r,O⟩:=D.same v y hy hD;rw[f]at r;cases r;exact O
 ·rw[AJ]at f
  cases hkk:(kU u kp)[k]? with
  |none=>rw[hkk]at f;cases f
  | some b=>
    rw[hkk]at f;cases f;obtain⟨B,U,N,aI⟩:=b9 b (AI hkk);rw[cb hkk,ah b B _ N,if_pos (AI hkk)];unfold BT;rw[aI]
 ·rw[BW]at hk;rw[bu,Xa hk]
end
