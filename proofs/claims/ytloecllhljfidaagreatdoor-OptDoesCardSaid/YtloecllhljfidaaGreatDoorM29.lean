/- Parts. -/
import Derived.Test.YtloecllhljfidaaGreatDoorM28
set_option maxHeartbeats 4000000
namespace Go.Proofs.YtloecllhljfidaaGreatDoor.Hx
open Un Dm
variable{D:Nat->Prop}{α:Type}{ty:Nat}
def qf.fix(E:qf α)(F:Nat->Prop)(h:Hp):qf α where
 sz:=E.sz
 rel _ _ x cs:=E.rel F h x cs
 len h:=E.len h
 one h:=E.one h
 fk _ h:=h
 mono _ h:=h
section
variable{F F':Nat->Prop}{h h':Hp}{cs ds:List Pc}{Q:fq}{u:U}{vv vb vs:V}
theorem ev.YY{E:qf α}{xs:List α}{v:V}(H:ev F h cs)(i:Nat)(hi:cs[i]? =some (fg E ty xs v)){k:Nat}{x:α}(hk:xs[k]? =some x)(kd:IntKind) :
  ∃l o w,gB E.sz v (.int kd k)=some (.ptr l o)/\fO E.sz (.ptr l o) h=some (.agg w)/\E.rel F h x w/\∀j u,w[j]? =some u->fe (.ptr l (o+j)) h=some u:=by
 obtain⟨c,rfl⟩:=jo.1 hk;have a:=(jo.1 hi).1;exact(H.Wb (E':=E.fix F h) i hi rfl rfl λk x y cs hx b d=>by rw[hx]at b;cases b;exact d).ix i (MR a) c kd
theorem ld5{l:Nat}{a b c d e f:V}(H:ev F h cs)(i:Nat)(hi:cs[i]? =some (eJ l ty [a,b,c,d,e,f])):fO 5 (.ptr l 0) h=some (.agg [a,b,c,d,e]):=by
 rw[Bf (H.get i hi)];rfl
theorem ev.Z5(H:ev F h cs)(i j:Nat) {ty d:Nat}{bs:List (Bk×V)}{fn:Nat->Option (List Nat×V)}{wb:V}{l:List Bk}(hi:cs[i]? =some (fg xz ty bs wb))(e:cs[j]? =some (fU d fn))(hc:Yo l bs fn):il eK (λl=>F l\/OR cs l) h l wb:=by
 refine(H.row i hi).read.Wb rfl (λm c=>c.imp id λc=>⟨i,_,hi,c⟩) (by rw[<-hc.fst,Er]) λk x y ws hx f g=>?_;rw[<-hc.fst,zq,hx]at f;cases f;have n:=(H.rows j e (hc.row k x.1 x.2 hx)).slR (F':=λl=>F l\/OR cs l) (by simp_all) λm c=> .inr ⟨j,_,e,k,_,_,hc.row k x.1 x.2 hx,c⟩
 let⟨a,b,o,p,q,_⟩:=g
 exact⟨a,x.2,b,o,p.mono λm c=>c.imp id λc=>⟨i,_,hi,c⟩,n,q.mono λm c=>c.imp id λc=>⟨i,_,hi,c⟩⟩
end
structure Ix (u:U):Prop where
 walk:zdP u
 nv:u.ej.length<=3000
 Ao:∀v b k b' k',At u v b k->At u v b' k'->b=b'/\k=k'
 iM:∀v b k,At u v b k->v<u.ej.length
 pre:∀(b:Nat) B,u.blocks[b]? =some B->B.fh.length<=700/\∀p∈B.fh,p<u.blocks.length
 Cd:∀v b k x B,At u v b k->u.ej[v]? =some x->x.op=21->u.blocks[b]? =some B->x.args.length=B.fh.length
 args:∀(v:Nat) x,u.ej[v]? =some x->x.args.length<=700
structure TV (u:U) (kp:Nat->Bool) (D:Nat->Prop) (xs:List (Vl×V)) (fa:Nat->Option (List Nat×V)):Prop where
 len:xs.length=u.ej.length
 out:∀i,u.ej.length<=i->fa i=none
 Cd:∀v b k x B,D v->At u v b k->u.ej[v]? =some x->x.op=21->u.blocks[b]? =some B->∃w,xs[v]? =some ({x with args:=pd u kp b B.fh x.args},w)/\fa v=some (pd u kp b B.fh x.args,w)
 same:∀v x,u.ej[v]? =some x->¬(x.op=21/\D v)->∃w,xs[v]? =some (x,w)/\fa v=some (x.args,w)
structure AsD (D:Nat->Prop) (az jD:List Int):Prop where
 len:jD.length=az.length
 gone:∀v,D v->v<az.length->jD[v]? =some (-1)
 same:∀v,¬D v->jD[v]? =az[v]?
theorem TV.more{D':Nat->Prop}{u:U}{kp:Nat->Bool}{xs:List (Vl×V)}{fa:Nat->Option (List Nat×V)}(c:TV u kp D xs fa)(h:∀v,D' v->D v\/∃x,u.ej[v]? =some x/\x.op≠21)(d:∀v,D v->D' v):TV u kp D' xs fa where
 len:=c.len
 out:=c.out
 Cd v b k x B hD AE hx hop hB:=by
  rcases h v hD with a|⟨y,a,e⟩
  ·exact c.Cd v b k x B a AE hx hop hB
  simp_all
 same v x hx hn:=c.same v x hx (by grind)
theorem TV.put{u:U}{kp:Nat->Bool}{xs:List (Vl×V)}{fa:Nat->Option (List Nat×V)}(g:Ix u)(c:TV u kp D xs fa){v b k:Nat}{x:Vl}{B:Bk}(d:At u v b k)(hx:u.ej[v]? =some x)(f:x.op=21)(h:u.blocks[b]? =some B)(w:V) :
  TV u kp (λa=>D a\/a=v) (xs.set v ({x with args:=pd u kp b B.fh x.args},w)) (up fa v (some (pd u kp b B.fh x.args,w))) where
 len:=by rw[Lj];exact c.len
 out i hi:=by
  have:=(jo.1 hx).1;rw[iX _ _ (by omega)];exact c.out i hi
 Cd a b' k' y B' hD RG hy hop' Xz:=by
  by_cases e:a=v
  ·subst e;obtain⟨rfl,rfl⟩:=g.Ao _ _ _ _ _ d RG;rw[hx]at hy;cases hy;rw[h]at Xz;cases Xz;exact⟨w,MR (by rw[c.len];grind),jz _ _ _⟩
  ·rw[I9 (by omega),iX _ _ e];exact c.Cd a b' k' y B' (hD.resolve_right e) RG hy hop' Xz
 same a y hy hn:=by
  by_cases e:a=v
  ·simp_all
  ·rw[I9 (by omega),iX _ _ e];exact c.same a y hy (by simp_all)
theorem AsD.congr{D':Nat->Prop} {az jD:List Int}(c:AsD D az jD)(h:∀v,D v↔D' v):AsD D' az jD:=
 ⟨c.len,λv hv=>c.gone v (by simp_all),λv hv=>c.same v (by simp_all)⟩
theorem AsD.put {az jD:List Int}(c:AsD D az jD)(v:Nat):AsD (λa=>D a\/a=v) az (jD.set v (-1)) where
 len:=by rw[Lj];exact c.len
 gone a ha hl:=by
  by_cases e:a=v
  ·subst e;exact MR (by rw[c.len];exact hl)
  ·rw[I9 (by omega)];exact c.gone a (ha.resolve_right e) hl
 same a ha:=by
  rw[I9 (by omega)];exact c.same a (by simp_all)
def DR(u:U)(kp:Nat->Bool)(c:Bool)(i j:Nat)(v:Nat):Prop:=(∃b k,b<i/\kp b=c/\At u v b k)\/∃k,k<j/\At u v i k
section
variable{F F':Nat->Prop}{h h':Hp}{cs ds:List Pc}{Q:fq}{u:U}
theorem ev.zcR{xs:List Nat}{v q:V}(H:ev F h cs)(i:Nat)(hi:cs[i]? =some (fg eN ty xs v)){k x:Nat}(hx:xs[k]? =some x){kd:IntKind}(hq:gB 1 v (.int kd (k:Nat))=some q):fe q h=some (.I x):=by
 let⟨l,o,a,b⟩:=H.L6 i hi hx kd
 simp_all
theorem ev.zfK(H:ev F h cs)(i:Nat){l n:Nat}(hi:cs[i]? =some (eJ l eR [.I n])):ev F h (cs.set i (fg eN eR [n] (.slice l 0 1))):=by
 have a:=H.ok i _ hi;exact H.swap hi (.inr ⟨l,_,rfl,a.2.1,a.2.2,a.1,⟨[.I n],[],rfl,rfl,trivial⟩,rfl⟩) λm e=>e.symm
theorem ev.zaq{ι:Type} [DecidableEq ι] {ty:Nat}{f:ι->Option (List Nat×V)}{xs:List Nat}{v:V}(H:ev F h (fg eN ty xs v::cs))(n:Nat)(o:cs[n]? =some (fU ty f)){i:ι}(hi:f i=Option.none):ev F h (cs.set n (fU ty (up f i (some (xs,v))))):=by
 have h0:=H.ok 0 _ rfl;have p:=H.ok (n+1) _ o;have r:=λl m=>H.Et 0 (n+1) _ _ rfl o (by omega) l m;have t:∀l,(fU ty (up f i (some (xs,v)))).my l->Loc v l\/(fU ty f).my l:=by
  rintro l ⟨k,ys,w,hk,u⟩;by_cases e:k=i
  ·simp_all
  ·rw[iX _ _ e]at hk;exact .inr ⟨k,ys,w,hk,u⟩
 have y:∀j c,j≠n->cs[j]? =some c->∀l,(fU ty (up f i (some (xs,v)))).my l->¬c.my l:=λj c d hc l m=>(t l m).elim (H.Et 0 (j+1) _ c rfl hc (by omega) l) (H.Et (n+1) (j+1) _ c o hc (by omega) l);refine⟨H.fl,λj c hc=>?_,λj k a b z hb A l m g=>?_⟩
 ·rcases E4 hc with⟨_,rfl⟩|⟨_,q⟩
  ·refine ⟨λj ys w d=>?_,λj k ys w s x d hk o l m g=>?_⟩
   ·by_cases e:j=i
    ·subst e;rw[jz]at d;cases d;exact h0
    ·rw[iX _ _ e]at d;exact p.1 j ys w d
   ·by_cases e:j=i
    ·subst e;rw[jz]at d;cases d;rw[iX _ _ (by grind)]at hk;exact r l m ⟨k,s,x,hk,g⟩
    ·rw[iX _ _ e]at d;by_cases e':k=i
     ·subst e';rw[jz]at hk;cases hk;exact r l g ⟨j,ys,w,d,m⟩
     ·rw[iX _ _ e']at hk;exact p.2 j k ys w s x d hk o l m g
  ·exact H.ok (j+1) c q
 ·rcases E4 z with⟨B,rfl⟩|⟨B,p⟩
  ·grind
  ·rcases E4 hb with⟨C,rfl⟩|⟨_,q⟩
   ·grind
   ·exact H.Et (j+1) (k+1) a b p q (by omega) l m g
theorem ev.X4{a b c d e f x y z:Pc}(H:ev F h (a::b::c::d::e::f::x::y::z::cs)):ev F h (d::a::f::x::y::z::cs):=
 H.re (λi=>match i with|0=>3|1=>0|n+2=>n+5) (by grind) (by grind)
theorem Ad{α:Type}{l:List α}{i:Nat}{x:α}(h:l[i]? =some x):l.take (i+1)=l.take i++[x]:=by
 obtain⟨a,rfl⟩:=jo.1 h
 simp_all
theorem xJ(p:Nat->Bool)(i:Nat):(List.range (i+1)).filter p=(List.range i).filter p++if p i=true then[i] else[]:=by
 rw[YN,wBp,wBm];rfl
end
def Q1(bs:List (Bk×V))(b:Nat):V:=match bs[b]? with
 |some x=>x.2
 |none=> .undef
def vO(u:U)(kp:Nat->Bool)(b:Nat):Bk:={u.blocks.getD b Py with fh:=kr u kp b (u.blocks.getD b Py).fh}
section
variable{F F':Nat->Prop}{h h':Hp}{cs ds:List Pc}{Q:fq}{u:U}{wv wb ws jC:V}{lt ty:Nat}{az:List Int}{xs:List (Vl×V)}{bs:List (Bk×V)}{fa fn:Nat->Option (List Nat×V)}
theorem XF(g:Ix u)(hc:YI u.ej xs fa)(hb:Yo u.blocks bs fn)(b8:az.length=u.ej.length)(bo:ws.one=true)
  (H0:ev F h (fg yL gK xs wv::fg xz fJ bs wb::fU eR fa::fU eR fn::fg eZ eR az jC::eJ lt ty [.I u.func,.I u.pc,wv,wb,ws,jC]::cs))
  (H:∀F' h' seen post kp u' f aL d z jD aM,Sn F h F' h'->Iq u.blocks.length (next u) seen post []->kp=(λb=>post.reverse.contains b)->Cut u kp u'->YI u'.ej f d->Yo u'.blocks aL z->KQ u kp az jD->
   ev F' h' (fg yL gK f wv::fg xz fJ aL aM::fU eR d::fU eR z::fg eZ eR jD jC::eJ lt ty [.I u.func,.I u.pc,wv,aM,ws,jC]::cs)->Q (.tuple []) h') :
  cP CS rW [.ptr lt 0] h Q:=by
 refine GI ?_;have nb:=g.walk.nb;have nv:=g.nv;have aN:bs.length=u.blocks.length:=by rw[<-hb.fst,Er]
 have br:xs.length=u.ej.length:=by rw[<-hc.fst,Er]
 have fz:∀{h:Hp} {cs:List Pc},fI 0 (.ptr lt 0)=some (.ptr lt 0):=rfl;refine eh (fS _ _) (eh (gf _ _ _) (oF (H0.ld 5 rfl rfl) (eh (H0.len 1 rfl) ?_)));rw[aN,jE rfl (by decide) (by omega),fu];obtain⟨H1,s1⟩:=H0.make (E:=eB) u.blocks.length rfl rfl;generalize h.next=S at*;refine eh (fS _ _) (eh (gf _ _ _) (eh (ld5 H1 6 rfl) ?_));have aO:gj (uC u wv wb ws)=true:=by simp only[uC,eQ,H1.one 1 rfl,H1.one 2 rfl,bo];rfl
 refine Mb g.walk H1.zeN aO (H1.Z5 2 4 rfl rfl hb) λK vo seen post aP bt G=>?_;have H2:=H1.zcW aP bt;have b9:=s1.trans aP.back;have aa:=λb hb=>G.pre b (wBG.1 hb);have bu:post.reverse.length<=u.blocks.length:=by
  have n:=G.nodup;rw[wBq,Lg]at n;rw[List.length_reverse];exact iP _ _ n G.pre
 generalize aQ:post.reverse=T at H2 aa bu⊢;refine eh (H2.len 0 rfl) ?_
 refine DM (λk l h'=>∃i kl,l=[.ptr lt 0,.slice S 0 u.blocks.length,vo,.I T.length,.I (i:Nat)]/\i+k=T.length/\kl.length=u.blocks.length/\(∀b,b<u.blocks.length->kl[b]? =some ((T.take i).contains b))/\Sn F h F h'/\
  ev F h' (fg eN eR T vo::fg eB jZ kl (.slice S 0 u.blocks.length)::fg yL gK xs wv::fg xz fJ bs wb::fU eR fa::fU eR fn::fg eZ eR az jC::eJ lt ty [.I u.func,.I u.pc,wv,wb,ws,jC]::cs)) ?_ (k:=T.length)
  (by grind)
 rintro k _ _ _ _ _ h3 ⟨i,kl,⟨⟩,hk,aR,L,s3,H3⟩;unfold wI;by_cases hi:i<T.length
 ·refine gy ?_;have hx:=gN hi;have au:=M4 hi;generalize T[i]=b at*;have bw:=aa b (zD hx)
  let⟨l1,o1,x1,x2⟩:=H3.L6 0 rfl hx .i64
  obtain⟨l2,o2,h4,e1,e2,_,H4,s4⟩:=H3.IH 1 rfl (k:=b) (by omega) rfl rfl rfl;refine eh x1 (eh x2 (eh e1 ?_));rw[e2,en];simp[oU,pJ]at H4;refine fF ⟨k-1,by omega,i+1,kl.set b true,rfl,by omega,by simp[aR],λc aS=>?_,s3.trans s4,H4⟩
  grind
 refine hY ?_;obtain rfl:i=T.length:=by omega
 rw[I2]at L;have H3:=H3.tail;obtain⟨kp,aT⟩:∃kp,(λb=>T.contains b)=kp:=⟨_,rfl⟩
 have L:∀b,b<u.blocks.length->kl[b]? =some (kp b):=λb hb=>by rw[L b hb,<-aT]
 have aU:kp=λb=>post.reverse.contains b:=by rw[aQ,aT]
 have aV:fE (.slice S 0 u.blocks.length)=some (.I u.blocks.length):=rfl;refine eh aV ?_;rw[jE rfl (by decide) (by omega),fu];obtain⟨H4,s4⟩:=H3.make (E:=eN) u.blocks.length rfl rfl;generalize h3.new (.cells eR 1 true false (List.replicate u.blocks.length (V.I 0)))=h4 at*;generalize h3.next=ln at*;refine eh aV ?_;have bx:=s3.trans s4
 refine DQ (λk l h'=>∃(i:Nat) (ns:List Nat),l=[.ptr lt 0,.slice S 0 u.blocks.length,.slice ln 0 u.blocks.length,.I (((List.range i).filter kp).length:Nat),.slice S 0 u.blocks.length,.I u.blocks.length,.I i]/\i+k=u.blocks.length/\ns.length=u.blocks.length/\(∀b,b<i->ns[b]? =some (jR kp b))/\(∀b,i<=b->b<u.blocks.length->ns[b]? =some 0)/\Sn F h F h'/\
  ev F h' (fg eN eR ns (.slice ln 0 u.blocks.length)::fg eB jZ kl (.slice S 0 u.blocks.length)::fg yL gK xs wv::fg xz fJ bs wb::fU eR fa::fU eR fn::fg eZ eR az jC::eJ lt ty [.I u.func,.I u.pc,wv,wb,ws,jC]::cs)) ?_ (k:=u.blocks.length)
  ⟨0,_,rfl,by omega,Wt,λb hb=>by omega,λb _ hb=>by rw[wBw,if_pos hb],bx,H4⟩
 rintro k _ _ _ _ _ _ _ h3 ⟨i,ns,⟨⟩,hk,ab,aw,aj,s3,H3⟩;unfold wm;have aW:((List.range i).filter kp).length<=i:=by
  have:=Zu kp (List.range i)
  rwa [UW]at this
 by_cases hi:i<u.blocks.length
 ·refine gy ?_
  let⟨l1,o1,x1,x2⟩:=H3.Jr 1 rfl (L i hi) .i64
  refine eh x1 (eh x2 (iB ?_));have hr:((List.range (i+1)).filter kp).length=((List.range i).filter kp).length+(if kp i=true then 1 else 0):=by
   rw[YN,wBp,Lw,wBm];split <;> rfl
  by_cases s:kp i=true
  ·refine fW s ?_;obtain⟨l2,o2,h4,e1,e2,_,H4,s4⟩:=H3.IH 0 rfl (k:=i) (by omega) rfl rfl rfl;refine eh e1 ?_;rw[e2,en];simp[oU]at H4;refine fF (uQ ?_);unfold oO;rw[if_pos s]at hr;refine fF ⟨k-1,by omega,i+1,ns.set i ((List.range i).filter kp).length,by rw[hr],by omega,by simp[ab],λb hb=>?_,λb hb ax=>?_,s3.trans s4,H4⟩
   ·by_cases e:b=i
    ·subst e;rw[MR (by omega)];unfold jR;rw[if_pos s]
    ·rw[I9 λh=>e h.symm];exact aw b (by omega)
   ·rw[I9 (by omega)];exact aj b (by omega) ax
  ·refine fP s (uQ ?_);unfold oO;rw[if_neg s,Nat.add_zero]at hr;refine fF ⟨k-1,by omega,i+1,ns,by rw[hr];rfl,by omega,ab,λb hb=>?_,λb hb ax=>aj b (by omega) ax,s3,H3⟩;by_cases e:b=i
   ·subst e;rw[aj b (iZ _) hi];unfold jR;rw[if_neg s]
   ·exact aw b (by omega)
 refine hY ?_;obtain rfl:i=u.blocks.length:=by omega
 clear hk k aj aW;refine eh (fS _ _) (eh (gf _ _ _) (oF (H3.ld 7 rfl rfl) (eh (H3.len 3 rfl) ?_)));rw[aN];have H3:ev F h3 (fg xz fJ [] .ei::fg eN eR ns (.slice ln 0 u.blocks.length)::fg eB jZ kl (.slice S 0 u.blocks.length)::fg yL gK xs wv::fg xz fJ bs wb::fU eR fa::fU eR fn::fg eZ eR az jC::eJ lt ty [.I u.func,.I u.pc,wv,wb,ws,jC]::cs):=H3.add .nil λ_ h=>h;have ab:=aw
 refine Ec (λk l h'=>∃(F':Nat->Prop) (i:Nat) (f:List (Vl×V)) (d:Nat->Option (List Nat×V)) (jD:List Int) (Y:V),l=[.ptr lt 0,.slice S 0 u.blocks.length,.slice ln 0 u.blocks.length,Y,wb,.I u.blocks.length,.I i]/\i+k=u.blocks.length/\Sn F h F' h'/\
  TV u kp (DR u kp true i 0) f d/\AsD (DR u kp false i 0) az jD/\
  ev F' h' (fg xz fJ (((List.range i).filter kp).map λb=>(vO u kp b,Q1 bs b)) Y::fg eN eR ns (.slice ln 0 u.blocks.length)::fg eB jZ kl (.slice S 0 u.blocks.length)::fg yL gK f wv::fg xz fJ bs wb::fU eR d::fU eR fn::fg eZ eR jD jC::eJ lt ty [.I u.func,.I u.pc,wv,wb,ws,jC]::cs)) ?_ (k:=u.blocks.length)
  ⟨F,0,xs,fa,az,.ei,rfl,by omega,s3,?_,?_,H3⟩
 rotate_left
 ·refine ⟨br,λi hi=>hc.out i (by omega),λv b k x B hD=>?_,λv x hx _=>?_⟩
  ·rcases hD with⟨_,_,h,_⟩|⟨_,h,_⟩ <;> omega
  ·rw[<-hc.fst,zq]at hx
   cases hy:xs[v]? with
   |none=>rw[hy]at hx;cases hx
   | some y=>
     rw[hy]at hx;cases hx;exact⟨y.2,rfl,hc.row v y.1 y.2 hy⟩
 ·refine⟨rfl,λv hD=>?_,λv _=>rfl⟩;rcases hD with⟨_,_,h,_⟩|⟨_,h,_⟩ <;> omega
 rintro k _ _ _ Y _ _ _ h4 ⟨M,i,f,d,jD,_,⟨⟩,hk,s4,A,U,H4⟩;unfold wB;by_cases hi:i<u.blocks.length
 ·refine gy ?_;obtain⟨⟨B,wn⟩,J⟩:∃y,bs[i]? =some y:=⟨_,gN (by omega)⟩
  have N:u.blocks[i]? =some B:=by rw[<-hb.fst,zq,J];rfl
  have ay:Q1 bs i=wn:=by unfold Q1;rw[J]
  obtain⟨l1,o1,w1,x1,x2,⟨bv,bp,rfl,iv,ip,aA⟩,_⟩:=H4.YY 4 rfl J .i64;have x1:=x1;have x2:=x2;refine eh x1 (eh x2 ?_);refine gQ H4 rfl rfl (by simp only[ku,eQ,iv.one,ip.one,aA];rfl) λh5 H5 s5=>?_;generalize h4.next=lb at*;have iv:=iv.since s5;have ip:=ip.since s5
  let⟨l2,o2,y1,y2⟩:=H5.Jr 3 rfl (L i hi) .i64
  refine eh y1 (eh y2 (pY ?_));have aX:∀c v,DR u kp c (i+1) 0 v↔DR u kp c i 0 v\/(kp i=c/\∃k,At u v i k):=λc v=>by
   constructor
   ·rintro(⟨b,k,n,K,h3⟩|⟨k,n,_⟩)
    ·by_cases e:b=i
     ·subst e;exact .inr ⟨K,k,h3⟩
     ·exact .inl (.inl ⟨b,k,by omega,K,h3⟩)
    ·omega
   ·rintro((⟨b,k,n,K,h3⟩|⟨k,n,_⟩)|⟨n,k,K⟩)
    ·exact .inl ⟨b,k,by omega,K,h3⟩
    ·omega
    ·exact .inl ⟨i,k,by omega,n,K⟩
  have ak:∀c j w,B.ej[j]? =some w->∀v,DR u kp c i (j+1) v↔DR u kp c i j v\/v=w:=λc j w hw v=>by
   constructor
   ·rintro (n|⟨k,n,K⟩)
    ·exact .inl (.inl n)
    ·by_cases e:k=j
     ·subst e
      let⟨B',e1,e2⟩:=K
      simp_all
     ·exact .inl (.inr ⟨k,by omega,K⟩)
   ·rintro((n|⟨k,n,K⟩)|rfl)
    ·exact .inl n
    ·exact .inr ⟨k,by omega,K⟩
    ·exact .inr ⟨j,by omega,B,N,hw⟩
  have aB:∀c,kp i=c->∀v,DR u kp c i B.ej.length v↔DR u kp c (i+1) 0 v:=λc bz v=>by
   rw[aX];constructor
   ·rintro(n|⟨k,n,K⟩)
    ·exact .inl (.inl n)
    ·exact .inr ⟨bz,k,K⟩
   ·rintro((n|⟨k,n,_⟩)|⟨_,k,B',e1,e2⟩)
    ·exact .inl n
    ·omega
    ·rw[N]at e1;cases e1;exact .inr ⟨k,(jo.1 e2).1,B,N,e2⟩
  have b5:B.ej.length<=u.ej.length:=by
   refine iP u.ej.length B.ej ?_ λv hv=>?_
   ·rw[List.nodup_iff_pairwise_ne,wA6];intro a b ha hb ca e;have:=(g.Ao B.ej[a] i a i b ⟨B,N,gN ha⟩ ⟨B,N,by rw[e];exact gN hb⟩).2;omega
   ·let⟨k,hk⟩:=mn.1 hv
    exact g.iM v i k ⟨B,N,hk⟩
  by_cases s:kp i=true
  ·refine fW s ?_;have bA:=g.pre i B N;have aC:u.blocks.getD i Py=B:=by rw[CH,N];rfl
   refine oF (H5.ld 0 rfl rfl) (eh ip.len ?_);obtain⟨c,aD⟩:∃c,(λj=>kp (B.fh.getD j 0)&&(next u (B.fh.getD j 0)).contains i)=c:=⟨_,rfl⟩
   have aE:(List.range B.fh.length).filter c=uT u kp i B.fh:=by rw[<-aD];rfl
   have H5:=(H5.add (p:=fg eN eR [] .ei) .nil λ_ h=>h).add (p:=fg eN eR [] .ei) .nil λ_ h=>h
   refine D0 (λk' l h'=>∃(j:Nat) (O r:V),l=[.ptr lt 0,.slice S 0 u.blocks.length,.slice ln 0 u.blocks.length,Y,.I i,.ptr lb 0,O,r,wb,.I u.blocks.length,.I i,bp,.I B.fh.length,.I j]/\j+k' = B.fh.length/\Sn F h M h'/\Sn M h5 M h'/\
    ev M h' (fg eN eR (((List.range j).filter c).map λj=>jR kp (B.fh.getD j 0)) r::fg eN eR ((List.range j).filter c) O::eJ lb 43 (ku B bv wn bp)::fg xz fJ (((List.range i).filter kp).map λb=>(vO u kp b,Q1 bs b)) Y::fg eN eR ns (.slice ln 0 u.blocks.length)::fg eB jZ kl (.slice S 0 u.blocks.length)::fg yL gK f wv::fg xz fJ bs wb::fU eR d::fU eR fn::fg eZ eR jD jC::eJ lt ty [.I u.func,.I u.pc,wv,wb,ws,jC]::cs)) ?_ (k:=B.fh.length)
    ⟨0,.ei,.ei,rfl,by omega,s4.trans s5,Sn.refl _ _,H5⟩
   rintro k' _ _ _ _ _ _ O r _ _ _ _ _ _ h6 ⟨j,_,_,⟨⟩,al,s6,Z,R⟩;unfold wC;have aS:((List.range j).filter c).length<=j:=by
    have:=Zu c (List.range j)
    rwa [UW]at this
   by_cases hj:j<B.fh.length
   ·refine gy ?_;have hx:=gN hj;have am:=bA.2 B.fh[j] (zI hj);have aY:B.fh.getD j 0=B.fh[j]:=by rw[CH,hx];rfl
    generalize B.fh[j]=p at*
    let⟨l1,o1,_,x1,x2⟩:=(ip.since Z).nat hx .i64
    let⟨l2,o2,y1,y2⟩:=R.Jr 5 rfl (L p am) .i64
    refine eh x1 (eh x2 (eh y1 (eh y2 ?_)));have aZ:=xJ c j;have an:c j=(kp p&&(next u p).contains i):=by rw[<-aD];simp only[aY]
    cases hkp':kp p with
    | false=>
      refine hV (hV (hV (hV (hV (hV (hV (hV (hV (hV (Hg ?_))))))))));refine eh (rfl) (iB (fP (by decide) (oG ?_)));unfold lj;refine ka (m:=1) (by omega) (by omega) ⟨k'-1,by omega,j+1,O,r,rfl,by omega,s6,Z,?_⟩;rw[aZ,show c j=false by rw[an,hkp'];rfl]
      simpa using R
    | true=>
      obtain⟨⟨P,wp⟩,aF⟩:∃y,bs[p]? =some y:=⟨_,gN (by omega)⟩
      have hP:u.blocks[p]? =some P:=by rw[<-hb.fst,zq,aF];rfl
      have bC:next u p=P.next:=by unfold next;rw[hP]
      obtain⟨l3,o3,w3,z1,_,⟨pv,pp,rfl,_,_,_⟩,z2⟩:=R.YY 7 rfl aF .i64;have z1:=z1;have z3:=z2 3 wp rfl;refine gw (eh rfl (gw (eh (fS _ _) (gw (eh (gf _ _ _) (gw (eh (gf _ _ _) (gw (eh (R.ld 11 rfl rfl) (gw (eh rfl (gw (eh z1 (gw (eh (gf _ _ _) (gw (eh z3 (gw (eh rfl (yF ?_))))))))))))))))))));refine zei (R.rows 9 rfl (hb.row p P wp aF)).read (by have:=g.walk.two p P hP;omega) i ?_;rw[<-bC];refine eh (by rfl) (iB ?_);rw[hkp',wBd]at an;by_cases ae:(next u p).contains i=true
      ·refine fW ae ?_
       rw[ae]at an;rw[mH,gO]
       let⟨W,s7⟩:=R.yP eR (ig [j])
       have W:=W;have s7:=s7;generalize h6.new (.cells 3 1 true false (ig [j]))=h7 at*;generalize h6.next=r1 at*
       let⟨l4,o4,n1,n2⟩:=W.L6 5 rfl (ab p am) .i64
       refine eh n1 (eh n2 ?_);rw[mH,gO];obtain⟨D,s8⟩:=W.yP eR (ig [jR kp p]);have D:=D;have s8:=s8;generalize h7.new (.cells 3 1 true false (ig [jR kp p]))=h8 at*;generalize h7.next=r2 at*;refine⟨⟨D.get 0 rfl,bq⟩,D.zcR 6 rfl (ab p am) n1,⟨D.get 1 rfl,bq⟩,?_⟩;have D:=D.zfK 1 rfl;simp[oU,pJ]at D;obtain⟨va,h9,e9,n9,X,s9⟩:=D.zbR 3 1 rfl rfl (jL:=8) (by decide) (by decide) (by simp;omega);have ag:fi 3 1 8 O (.slice r1 0 1) h8=some (.val va h9):=e9;simp[oU,pJ]at X;rw[ag,en];refine⟨n9,⟨X.get 0 rfl,bq⟩,X.zcR 6 rfl (ab p am) n1,?_⟩;have X:=X.zfK 0 rfl;simp[oU]at X
       let⟨vc,bD,bE,bG,ah,bH⟩:=X.zbR 2 0 rfl rfl (jL:=8) (by decide) (by decide) (by simp;omega)
       have a5:fi 3 1 8 r (.slice r2 0 1) h9=some (.val vc bD):=bE;rw[a5,en];simp[oU,pJ]at ah;refine⟨bG,oG ?_⟩;unfold lj;have sA:=((s7.trans s8).trans s9).trans bH;refine ka (m:=1) (by omega) (by omega) ⟨k'-1,by omega,j+1,va,vc,rfl,by omega,s6.trans sA,Z.trans sA,?_⟩;rw[aZ,an,if_pos rfl,Mw,wBe,wBq,aY];exact ah.tail.tail
      ·refine fP ae (oG ?_)
       unfold lj;refine ka (m:=1) (by omega) (by omega) ⟨k'-1,by omega,j+1,O,r,rfl,by omega,s6,Z,?_⟩
       simp_all
   refine hY ?_;obtain rfl:j=B.fh.length:=by omega
   rw[aE]at R;have oS:(uT u kp i B.fh).length<=700:=by rw[<-aE];omega
   have bI:∀m∈uT u kp i B.fh,m<B.fh.length:=λm hm=>by
    exact Vu.1 (Lz.1 hm).1
   have a6:(uT u kp i B.fh).map (λj=>jR kp (B.fh.getD j 0))=kr u kp i B.fh:=rfl;rw[a6]at R;clear al k' aS hj aE aD c a6;refine oF (R.ld 2 rfl rfl) (eh iv.len ?_);have a7:=iv.since Z
   refine DY (λk' l h'=>∃(j:Nat) (f:List (Vl×V)) (d:Nat->Option (List Nat×V)),l=[.ptr lt 0,.slice S 0 u.blocks.length,.slice ln 0 u.blocks.length,Y,.ptr lb 0,O,r,wb,.I u.blocks.length,.I i,bv,.I B.ej.length,.I j]/\j+k' = B.ej.length/\Sn F h M h'/\Sn M h6 M h'/\TV u kp (DR u kp true i j) f d/\
    ev M h' (fg eN eR (kr u kp i B.fh) r::fg eN eR (uT u kp i B.fh) O::eJ lb 43 (ku B bv wn bp)::fg xz fJ (((List.range i).filter kp).map λb=>(vO u kp b,Q1 bs b)) Y::fg eN eR ns (.slice ln 0 u.blocks.length)::fg eB jZ kl (.slice S 0 u.blocks.length)::fg yL gK f wv::fg xz fJ bs wb::fU eR d::fU eR fn::fg eZ eR jD jC::eJ lt ty [.I u.func,.I u.pc,wv,wb,ws,jC]::cs)) ?_ (k:=B.ej.length)
    ⟨0,f,d,rfl,by omega,s6,Sn.refl _ _,A,R⟩
   rintro k' _ _ _ _ _ _ _ _ _ _ _ _ _ h7 ⟨j,f,d,⟨⟩,al,s7,ao,A,W⟩;unfold wz;by_cases hj:j<B.ej.length
   ·refine gy ?_;have hx:=gN hj;generalize B.ej[j]=v at*;have I:At u v i j:=⟨B,N,hx⟩
    have ap:=g.iM v i j I
    let⟨l1,o1,_,x1,x2⟩:=(a7.since ao).nat hx .i64
    obtain⟨x,aG⟩:∃x,u.ej[v]? =some x:=⟨_,gN ap⟩
    have bJ:¬DR u kp true i j v:=by
     rintro(⟨b,k,n,_,K⟩|⟨k,n,K⟩)
     ·have:=(g.Ao _ _ _ _ _ K I).1;omega
     ·have:=(g.Ao _ _ _ _ _ K I).2;omega
    let⟨w,hxw,hfw⟩:=A.same v x aG λh=>bJ h.2
    obtain⟨lv,ov,wl,y1,_,⟨rfl,w1⟩,y2⟩:=W.YY 6 rfl hxw .i64;have y1:gB 6 wv (.I v)=some (.ptr lv ov):=y1;refine eh x1 (eh x2 (eh (fS _ _) (eh (gf _ _ _) (oF (W.ld 11 rfl rfl) (eh y1 (oN (y2 0 _ rfl) (fX ?_)))))));by_cases aa:x.op=21
    ·refine fW (by show(x.op:Int)=21;omega) (eh (W.len 1 rfl) ?_);have b6:=g.Cd v i j x B I aG aa N;have D:=W.add (p:=fg eN eR [] .ei) .nil λ_ h=>h
     refine DP (λaH l h'=>∃m vr,l=[.ptr lt 0,.slice S 0 u.blocks.length,.slice ln 0 u.blocks.length,Y,.ptr lb 0,O,r,.ptr lv ov,vr,wb,.I u.blocks.length,.I i,bv,.I B.ej.length,.I j,O,.I ((uT u kp i B.fh).length:Nat),.I (m:Nat)]/\m+aH=(uT u kp i B.fh).length/\Sn M h7 M h'/\
      ev M h' (fg eN eR (((uT u kp i B.fh).take m).map λj=>x.args.getD j 0) vr::fg eN eR (kr u kp i B.fh) r::fg eN eR (uT u kp i B.fh) O::eJ lb 43 (ku B bv wn bp)::fg xz fJ (((List.range i).filter kp).map λb=>(vO u kp b,Q1 bs b)) Y::fg eN eR ns (.slice ln 0 u.blocks.length)::fg eB jZ kl (.slice S 0 u.blocks.length)::fg yL gK f wv::fg xz fJ bs wb::fU eR d::fU eR fn::fg eZ eR jD jC::eJ lt ty [.I u.func,.I u.pc,wv,wb,ws,jC]::cs)) ?_ (k:=(uT u kp i B.fh).length)
      ⟨0,.ei,rfl,by omega,Sn.refl _ _,D⟩
     rintro aH _ _ _ _ _ _ _ _ vr _ _ _ _ _ _ _ _ _ h8 ⟨m,_,⟨⟩,b7,aI,D⟩;unfold wQ;obtain⟨a8,a9,wl,y3,_,⟨rfl,_⟩,y4⟩:=D.YY 7 rfl hxw .i64;have y3:gB 6 wv (.I v)=some (.ptr a8 a9):=y3;rw[y1]at y3;obtain⟨rfl,rfl⟩:lv=a8/\ov=a9:=by cases y3;exact⟨rfl,rfl⟩
     by_cases hm:m<(uT u kp i B.fh).length
     ·refine gy ?_;have hq:=gN hm;have au:=Ad hq;have cb:=bI _ (zI hm);generalize (uT u kp i B.fh)[m]=q at*
      let⟨l2,o2,z1,z2⟩:=D.L6 2 rfl hq .i64
      have ha:=gN (show q<x.args.length by omega);have bK:x.args.getD q 0=x.args[q]:=by rw[CH,ha];rfl
      generalize x.args[q]=a at*
      let⟨l3,o3,_,z3,z4⟩:=(D.rows 9 rfl hfw).read.nat ha .i64
      refine eh z1 (eh z2 (oN (y4 4 _ rfl) (eh z3 (eh z4 ?_))));rw[mH,fu];obtain⟨va,h9,e9,_,X,s9⟩:=D.rZ 0 rfl (jL:=8) rfl (by decide) (by decide) (by simp;omega);have ag:fi 3 1 8 vr (.slice h8.next 0 1) (h8.new (.cells 3 1 true false (ig [a])))=some (.val va h9):=e9;rw[ag,en];refine fF ⟨aH-1,by omega,m+1,va,rfl,by omega,aI.trans s9,?_⟩;rw[au,Mw,wBe,wBq,bK];exact X
     refine hY ?_;obtain rfl:m=(uT u kp i B.fh).length:=by omega
     rw[I2]at D;have D:ev M h8 (fg eN eR (pd u kp i B.fh x.args) vr::_):=D;have ba:=D.one 0 rfl;have aq:=jo.1 hxw
     let ⟨lq,h9,e1,e2,_,X,s9⟩:=D.stF 7 rfl (j:=4) (y:=({x with args:=pd u kp i B.fh x.args},vr)) aq.1 (by decide) ba (λw' hw=>by
      rw[aq.2]at hw;obtain⟨rfl,_⟩:=hw;exact⟨rfl,ba⟩)
     have e1:gB 6 wv (.I v)=some (.ptr lq (v*6)):=e1;rw[y1]at e1;obtain⟨rfl,rfl⟩:lv=lq/\ov=v*6:=by cases e1;exact⟨rfl,rfl⟩
     have e2:gq 1 (.ptr lv (v*6+4)) vr h8=some (.val .undef h9):=e2;refine eh (fS _ _) (eh (gf _ _ _) ?_);rw[e2,en];simp[oU,pJ]at X;have ah:=X.Us 9 rfl (up d v Option.none) id (by grind[jz,iX]) (λ_ _ _ _ _ _ e=>e);simp[oU,pJ]at ah;have aJ:=ah.zaq 8 rfl (jz _ _ _);simp[oU,pJ]at aJ;have bb:up (up d v Option.none) v (some (pd u kp i B.fh x.args,vr))=up d v (some (pd u kp i B.fh x.args,vr)):=funext (by grind[jz,iX]);rw[bb]at aJ;refine uW ?_;unfold oE;have c2:=A.put g I aG aa N vr;refine fF ⟨k'-1,by omega,j+1,_,_,rfl,by omega,(s7.trans aI).trans s9,(ao.trans aI).trans s9,?_,aJ⟩;exact c2.more (λa ha=> .inl ((ak true j v hx a).1 ha)) λa ha=>(ak true j v hx a).2 ha
    ·refine fP (by show ¬(x.op:Int)=21;omega) (uW ?_);unfold oE;refine fF ⟨k'-1,by omega,j+1,f,d,rfl,by omega,s7,ao,A.more (λa ha=>?_) (λa ha=>(ak true j v hx a).2 (.inl ha)),W⟩
     grind
   refine hY ?_;obtain rfl:j=B.ej.length:=by omega
   have bL:=a7.since ao
   let⟨D,s8,rp⟩:=W.jc 0 rfl
   simp[oU]at D;have bQ:=bL.since s8;generalize (λl=>M l\/Loc r l)=F8 at*;have D:=D.tail.tail
   let⟨h9,e9,_,X,s9⟩:=D.st 0 (o:=4) rfl (by simp[ku]) rp.one
   refine eh (gf _ _ _) ?_;have ag:gq 1 (.ptr lb (0+4)) r h7=some (.val .undef h9):=by rw[C7];exact e9
   rw[ag,en];simp[oU]at X;have bc:vO u kp i = {B with fh:=kr u kp i B.fh}:=by unfold vO;rw[aC]
   have ae:(ku B bv wn bp).set 4 r=ku (vO u kp i) bv wn r:=by rw[bc];rfl
   rw [ae]at X;have bd:=bQ.since s9;have be:=rp.since s9;refine eh (X.mY 0 rfl rfl) ?_;have X:=X.tail;rw[nM (sz:=6) rfl rfl (by simp only[ku,eQ,bd.one,aA,be.one];rfl),fu];have cd:((List.range i).filter kp).length<=i:=by
    have:=Zu kp (List.range i)
    rwa [UW]at this
   obtain⟨bf,hA,eA,_,HA,sA⟩:=X.rZ 0 rfl (jL:=96) (y:=(vO u kp i,wn)) (w:=ku (vO u kp i) bv wn r) (by rw[bc];exact⟨bv,r,rfl,bd,be,aA⟩) (by decide) (by decide) (by simp;omega);have bR:fi 43 6 96 Y (.slice h9.next 0 1) (h9.new (.cells 43 6 true false (ku (vO u kp i) bv wn r)))=some (.val bf hA):=eA;rw[bR,en];simp[oU]at HA;refine uY ?_;unfold oL;refine fF ⟨k-1,by omega,F8,i+1,f,d,jD,bf,rfl,by omega,((s7.trans s8).trans s9).trans sA,?_,?_,?_⟩
   ·exact A.more (λv n=> .inl ((aB true s v).2 n)) λv n=>(aB true s v).1 n
   ·refine U.congr λv=>?_
    simp_all
   ·rw[xJ,s,if_pos rfl,Mw,wBe,wBq,ay];exact HA
  ·refine fP s ?_;have s:=wBg.2 s;refine oF (H5.ld 0 rfl rfl) (eh iv.len ?_);have H5:=H5.tail
   refine DU (λk' l h'=>∃(j:Nat) (jD:List Int),l=[.ptr lt 0,.slice S 0 u.blocks.length,.slice ln 0 u.blocks.length,Y,wb,.I u.blocks.length,.I i,bv,.I B.ej.length,.I j]/\j+k' = B.ej.length/\Sn F h M h'/\Sn M h5 M h'/\AsD (DR u kp false i j) az jD/\
    ev M h' (fg xz fJ (((List.range i).filter kp).map λb=>(vO u kp b,Q1 bs b)) Y::fg eN eR ns (.slice ln 0 u.blocks.length)::fg eB jZ kl (.slice S 0 u.blocks.length)::fg yL gK f wv::fg xz fJ bs wb::fU eR d::fU eR fn::fg eZ eR jD jC::eJ lt ty [.I u.func,.I u.pc,wv,wb,ws,jC]::cs)) ?_ (k:=B.ej.length)
    ⟨0,jD,rfl,by omega,s4.trans s5,Sn.refl _ _,U,H5⟩
   rintro k' _ _ _ Y _ _ _ _ _ _ h6 ⟨j,jD,⟨⟩,al,s6,Z,U,R⟩;unfold wS;by_cases hj:j<B.ej.length
   ·refine gy ?_;have hx:=gN hj;generalize B.ej[j]=v at*;have ap:=g.iM v i j ⟨B,N,hx⟩
    let⟨l1,o1,_,x1,x2⟩:=(iv.since Z).nat hx .i64
    refine eh x1 (eh x2 (oN (R.ld 8 rfl rfl) ?_));obtain⟨l2,o2,h7,e1,e2,_,W,s7⟩:=R.IH 7 rfl (k:=v) (by rw[U.len];omega) rfl rfl rfl;refine eh e1 ?_;rw[e2,en];simp[oU,pJ]at W;exact fF ⟨k'-1,by omega,j+1,jD.set v (-1),rfl,by omega,s6.trans s7,Z.trans s7,(U.put v).congr λa=>(ak false j v hx a).symm,W⟩
   refine hY (uY ?_);unfold oL;obtain rfl:j=B.ej.length:=by omega
   refine fF ⟨k-1,by omega,M,i+1,f,d,jD,_,rfl,by omega,s6,?_,U.congr (aB false s),?_⟩
   ·refine A.more (λv n=> .inl ?_) λv n=>(aX true v).2 (.inl n)
    simp_all
   ·rw[xJ,s];simpa using R
 refine hY ?_;obtain rfl:i=u.blocks.length:=by omega
 have aR:(mc u kp).length<=u.blocks.length:=by
  have:=Zu kp (List.range u.blocks.length)
  rwa [UW]at this
 rw[show(List.range u.blocks.length).filter kp=mc u kp from rfl]at H4;refine eh (H4.len 0 rfl) ?_;rw[Er];have ce:(mc u kp).Nodup:=wBV.filter _;have bg:∀b∈mc u kp,b<u.blocks.length:=λb hb=>Vu.1 (Lz.1 hb).1
 refine Dj (λk l h'=>∃(i:Nat) (z:Nat->Option (List Nat×V)),l=[.ptr lt 0,.slice ln 0 u.blocks.length,Y,.I ((mc u kp).length:Nat),.I i]/\i+k=(mc u kp).length/\Sn F h M h'/\
  (∀b B w,bs[b]? =some (B,w)->z b=some (if b∈(mc u kp).take i then B.next.map (jR kp) else B.next,w))/\
  ev M h' (fg xz fJ ((mc u kp).map λb=>(vO u kp b,Q1 bs b)) Y::fg eN eR ns (.slice ln 0 u.blocks.length)::fg eB jZ kl (.slice S 0 u.blocks.length)::fg yL gK f wv::fg xz fJ bs wb::fU eR d::fU eR z::fg eZ eR jD jC::eJ lt ty [.I u.func,.I u.pc,wv,wb,ws,jC]::cs)) ?_ (k:=(mc u kp).length)
  ⟨0,fn,rfl,by omega,s4,λb B w bS=>by rw[hb.row b B w bS];simp,H4⟩
 rintro k _ _ _ _ _ h5 ⟨i,z,⟨⟩,hk,s5,ad,H5⟩;unfold wT;by_cases hi:i<(mc u kp).length
 ·refine gy ?_;have hx:=gN hi;have au:=Ad hx;have bw:=bg _ (zI hi);have bU:(mc u kp)[i] ∉ (mc u kp).take i:=by grind[mn,jo,Pw,List.getElem?_take_of_lt,sY]
  generalize (mc u kp)[i]=b at*;obtain⟨⟨B,wn⟩,J⟩:∃y,bs[b]? =some y:=⟨_,gN (by omega)⟩
  have N:u.blocks[b]? =some B:=by rw[<-hb.fst,zq,J];rfl
  have ay:Q1 bs b=wn:=by unfold Q1;rw[J]
  have bh:((mc u kp).map λb=>(vO u kp b,Q1 bs b))[i]? =some (vO u kp b,wn):=by rw[zq,hx,<-ay];rfl
  have cf:=g.walk.two b B N;have bV:=λt ht=>g.walk.nx b t (by unfold next;rw[N];exact ht);have ac:=ad b B wn J;rw[if_neg bU]at ac;obtain⟨lo,oo,w1,z1,_,⟨pv,pp,rfl,_,_,_⟩,z2⟩:=H5.YY 0 rfl bh .i64;have z1:=z1;have z3:=z2 3 wn rfl;refine eh z1 (oF z3 (eh (H5.rows 6 rfl ac).len ?_))
  refine Eb (λk' l h'=>∃(j:Nat) (z:Nat->Option (List Nat×V)),l=[.ptr lt 0,.slice ln 0 u.blocks.length,Y,.I i,.I ((mc u kp).length:Nat),.I i,wn,.I B.next.length,.I j]/\j+k' = B.next.length/\Sn F h M h'/\
   (∀c B w,c≠b->bs[c]? =some (B,w)->z c=some (if c∈(mc u kp).take i then B.next.map (jR kp) else B.next,w))/\z b=some ((B.next.take j).map (jR kp)++B.next.drop j,wn)/\
   ev M h' (fg xz fJ ((mc u kp).map λb=>(vO u kp b,Q1 bs b)) Y::fg eN eR ns (.slice ln 0 u.blocks.length)::fg eB jZ kl (.slice S 0 u.blocks.length)::fg yL gK f wv::fg xz fJ bs wb::fU eR d::fU eR z::fg eZ eR jD jC::eJ lt ty [.I u.func,.I u.pc,wv,wb,ws,jC]::cs)) ?_ (k:=B.next.length)
   ⟨0,z,rfl,by omega,s5,λc B w _ hc=>ad c B w hc,ac,H5⟩
  rintro k' _ _ _ _ _ _ _ _ _ h6 ⟨j,z,⟨⟩,al,s6,ad,ac,R⟩;unfold wX;obtain⟨cg,ci,w1,z4,_,⟨pv,pp,rfl,_,_,_⟩,z2⟩:=R.YY 0 rfl bh .i64;have z4:=z4;have z3:=z2 3 wn rfl;by_cases hj:j<B.next.length
  ·refine gy ?_;have hn:=gN hj;have ar:((B.next.take j).map (jR kp)++B.next.drop j)[j]? =some B.next[j]:=by
    rw[wAy (by simp;omega)];simp[Pw,wBi (Nat.le_of_lt hj)]
   have bi:((B.next.take j).map (jR kp)++B.next.drop j).set j (jR kp B.next[j])=(B.next.take (j+1)).map (jR kp)++B.next.drop (j+1):=by
    have hL:((B.next.take j).map (jR kp)).length=j:=by rw[Er,Pw];omega
    rw[Ad hn,Mw,Pr,YD hj,List.set_append_right _ _ (by omega),hL,Nat.sub_self];rfl
   have aK:=(jo.1 ar).1;have bW:=bV _ (zI hj);generalize B.next[j]=t at*
   let⟨l1,o1,_,x1,x2⟩:=(R.rows 6 rfl ac).read.nat ar .i64
   let⟨l2,o2,y1,y2⟩:=R.L6 1 rfl (ab t bW) .i64
   let⟨l3,o3,h7,e1,e2,n7,W,s7⟩:=R.Y3 6 rfl ac aK (jR kp t)
   refine eh x1 (eh x2 (eh z4 (oF z3 (eh y1 (eh y2 (eh e1 ?_))))));rw[e2,en];refine⟨n7,fF ⟨k'-1,by omega,j+1,_,rfl,by omega,s6.trans s7,λc C w bj hc=>?_,?_,W⟩⟩
   ·rw[iX _ _ bj];exact ad c C w bj hc
   ·rw[jz,bi]
  refine hY ?_;obtain rfl:j=B.next.length:=by omega
  rw[I2,List.drop_length,Lg]at ac;refine fF ⟨k-1,by omega,i+1,z,rfl,by omega,s6,λc C w hc=>?_,R⟩
  grind
 refine hY ?_;obtain rfl:i=(mc u kp).length:=by omega
 rw[I2]at ad
 let⟨h6,e6,_,R,s6⟩:=H5.st 8 (o:=3) rfl (by simp) (H5.one 0 rfl)
 refine eh (fS _ _) (eh (gf _ _ _) (eh (gf _ _ _) ?_));have bX:=e6;rw[bX,en];simp[oU,pJ]at R;have bY:∀b,b∈mc u kp->∃B,u.blocks[b]? =some B/\bs[b]? =some (B,Q1 bs b)/\u.blocks.getD b Py=B:=λb bZ=>by
  obtain⟨⟨B,w⟩,J⟩:∃y,bs[b]? =some y:=⟨_,gN (by have:=bg b bZ;omega)⟩
  have N:u.blocks[b]? =some B:=by rw[<-hb.fst,zq,J];rfl
  exact⟨B,N,by unfold Q1;rw[J],by rw[CH,N];rfl⟩
 have W:=R.Wb (ys:=(mc u kp).map λb=>(E2 u kp b,Q1 bs b)) 0 rfl rfl (by simp) λk x y ws hx hy hr=>by
  rw[zq]at hx hy
  cases hkk:(mc u kp)[k]? with
  |none=>rw[hkk]at hx;cases hx
  | some b=>
    rw[hkk]at hx hy;cases hx;cases hy;exact hr
 simp[oU]at W;obtain⟨ai,bm⟩:∃ai:Nat->Option (List Nat×V),∀k,ai k=match (mc u kp)[k]? with|some b=>z b|none=>Option.none:=⟨_,λ_=>rfl⟩
 have b4:∀{k b:Nat},(mc u kp)[k]? =some b->ai k=z b:=λhk=>by rw[bm,hk]
 have D:=W.Us 6 rfl ai (λk=>(mc u kp).getD k 0) (by grind) (by grind[mc,sY]);simp[oU,pJ]at D;have hU:∀c v,DR u kp c u.blocks.length 0 v↔∃b k,At u v b k/\kp b=c:=λc v=>by
  constructor
  ·rintro(⟨b,k,_,h3,h4⟩|⟨k,h3,_⟩)
   ·exact⟨b,k,h4,h3⟩
   ·omega
  ·rintro⟨b,k,h4,h3⟩;exact .inl ⟨b,k,(let⟨_,h,_⟩:=h4;(jo.1 h).1),h3,h4⟩
 refine H M h6 seen post kp ⟨u.func,u.pc,f.map Prod.fst,(mc u kp).map (E2 u kp),u.eo⟩ f ((mc u kp).map λb=>(E2 u kp b,Q1 bs b)) d ai jD Y (s5.trans s6) G aU ⟨rfl,rfl,rfl,rfl,by rw[Er,A.len],λv b k x B I hx aa L N=>?_,λv x hx hn=>?_⟩ ⟨rfl,λv x w hx=>?_,λv hv=>A.out v (by rw[A.len]at hv;exact hv)⟩ ⟨by rw[List.map_map];rfl,λk B w hx=>?_,λk hk=>?_⟩ ⟨U.len,λv b k I L hv=>U.gone v ((hU false v).2 ⟨b,k,I,L⟩) hv,λv hn=>U.same v λhD=>hn ((hU false v).1 hD)⟩ D.X4
 ·let⟨w,n,_⟩:=A.Cd v b k x B ((hU true v).2 ⟨b,k,I,L⟩) I hx aa N
  rw[zq,n];rfl
 ·let⟨w,n,_⟩:=A.same v x hx λ⟨n,K⟩=>hn ⟨n,(hU true v).1 K⟩
  rw[zq,n];rfl
 ·have ap:v<u.ej.length:=by rw[<-A.len];exact(jo.1 hx).1
  have hy:=gN ap;generalize u.ej[v]=y at*;by_cases hD:y.op=21/\DR u kp true u.blocks.length 0 v
  ·let⟨b,k,I,L⟩:=(hU true v).1 hD.2
   let⟨B,N,hBk⟩:=id I
   let⟨w',n,K⟩:=A.Cd v b k y B hD.2 I hy hD.1 N
   rw[hx]at n;cases n;exact K
  ·let⟨w',n,K⟩:=A.same v y hy hD
   rw[hx]at n;cases n;exact K
 ·rw[zq]at hx
  cases hkk:(mc u kp)[k]? with
  |none=>rw[hkk]at hx;cases hx
  | some b=>
    rw[hkk]at hx;cases hx
    let⟨B,N,J,aC⟩:=bY b (zD hkk)
    rw[b4 hkk,ad b B _ J,if_pos (zD hkk)];unfold E2;rw[aC]
 ·rw[Er]at hk;rw[bm,Q9 hk]
end
