/- Parts. -/
import Derived.Test.YtnehpeeglbgfpaaDoorM38
set_option maxHeartbeats 4000000
namespace Go.Proofs.YtnehpeeglbgfpaaDoor.Hx
open Un Dm
def LH:sQ (List Bool×Nat) where
 sz:=1
 rel F h x w:=(x.1=[]/\w=[.ed])\/∃ds,w=[.slice x.2 0 x.1.length]/\F x.2/\h.get x.2=some (.cells fx 1 true false ds)/\mE eB F h ds x.1/\gh ds=true
 len:=λh=>by rcases h with⟨_,rfl⟩|⟨_,rfl,_⟩ <;> rfl
 one:=λh=>by rcases h with⟨_,rfl⟩|⟨_,rfl,_⟩ <;> rfl
 eD:=λf h=>h.imp id λ⟨ds,a,b,c,d,e⟩=>⟨ds,a,b,(f _ b).trans c,d.eD f,e⟩
 mono:=λg h=>h.imp id λ⟨ds,a,b,c,d,e⟩=>⟨ds,a,g _ b,c,d.mono g,e⟩
def o1(outs:List (List Bool×Nat)):List (List Bool):=outs.map (·.1)
theorem CR{outs:List (List Bool×Nat)}{b:Nat}{x:List Bool×Nat}(h:outs[b]? =some x):(o1 outs)[b]? =some x.1:=by unfold o1;rw[List.getElem?_map,h];rfl
theorem Hw(outs:List (List Bool×Nat))(b:Nat)(x:List Bool)(t:Nat):o1 (outs.set b (x,t))=(o1 outs).set b x:=by unfold o1;rw[List.map_set]
theorem Ix(outs:List (List Bool×Nat)):(o1 outs).length=outs.length:=by unfold o1;simp
structure SJ (F0:Nat->Prop) (outs:List (List Bool×Nat)):Prop where
 B5:∀(i j:Nat) (x y:List Bool×Nat),outs[i]? =some x->outs[j]? =some y->i≠j->x.1≠[]->y.1≠[]->x.2≠y.2
 new:∀x∈outs,x.1≠[]->¬F0 x.2
section
variable{F F0:Nat->Prop}{h:Hp}{cs:List Pc}{outs:List (List Bool×Nat)}{fR v:V}{xs:List Bool}
theorem mE.getM:∀{ds:List V}{l:List (List Bool×Nat)},mE LH F h ds l->∀x∈l,∃w,LH.rel F h x w
 |_,[],_,x,a=>by cases a
 | _,y::l,⟨w,r,_,b,c⟩,x,a=>by
   rcases AJ.1 a with rfl|a
   ·exact⟨w,b⟩
   ·exact mE.getM c x a
theorem er.Z2(H:er F h cs)(i:Nat){ty:Nat}(hi:cs[i]? =some (fo LH ty outs fR)):∀x∈outs,x.1≠[]->F x.2:=λx b c=>by
 rcases H.row i hi with⟨_,rfl⟩|⟨t,ds,_,_,_,_,d,_⟩
 ·cases b
 ·obtain⟨w,⟨a,_⟩|⟨_,_,a,_⟩⟩:=mE.getM d x b
  ·exact absurd a c
  ·exact a
theorem SJ.set(A:SJ F0 outs)(c:∀x∈outs,x.1≠[]->F x.2)(m:∀l,F0 l->F l){b t:Nat}(f:xs≠[]->¬F t):SJ F0 (outs.set b (xs,t)) where
 B5:=λi j x y hi a d g h=>by
  rw[List.getElem?_set]at hi a;split at hi
  ·rename_i e1;split at hi
   ·cases hi;split at a
    ·omega
    ·exact λe=>f g (show F t from(show t=y.2 from e)▸c y (xu a) h)
   ·cases hi
  ·split at a
   ·split at a
    ·cases a;exact λe=>f h (show F t from(show x.2=t from e)▸c x (xu hi) g)
    ·cases a
   ·exact A.B5 i j x y hi a d g h
 new:=λx k d=>by
  rcases VJ k with k|rfl
  ·exact A.new x k d
  ·exact λn=>f d (m _ n)
theorem jF.toM(a:jF eB fx F h xs v):∃t,LH.rel (λl=>F l\/Loc v l) h (xs,t) [v]/\(xs≠[]->¬F t):=by
 rcases a with⟨rfl,rfl⟩|⟨t,ds,rfl,_,b,c,d,e⟩
 ·exact⟨0,.inl ⟨rfl,rfl⟩,λh=>absurd rfl h⟩
 ·exact⟨t,.inr ⟨ds,rfl,.inr rfl,c,d.mono λ_ h=> .inl h,e⟩,λ_=>b⟩
theorem ZO{x:List Bool×Nat}{w:V}(c:LH.rel F h x [w]):iL eB F h x.1 w:=by
 rcases c with⟨a,b⟩|⟨ds,a,b,d,e,_⟩
 ·cases b;exact .inl ⟨rfl,a⟩
 ·cases a;exact .inr ⟨x.2,0,fx,true,false,ds,rfl,b,d,.inr rfl,GM _,e⟩
theorem er.XE(H:er F h cs)(i:Nat){ty:Nat}(hi:cs[i]? =some (fo LH ty outs fR)){k:Nat}{x:List Bool×Nat}(d:outs[k]? =some x) :
  ∃l o w,gy 1 fR (.I k)=some (.ptr l o)/\en (.ptr l o) h=some w/\iL eB F h x.1 w:=by
 obtain⟨a,rfl⟩:=jw.1 d;rcases H.row i hi with⟨rfl,rfl⟩|⟨t,ds,rfl,m,n,e,g,p⟩
 ·simp at a
 ·obtain ⟨w,b,j,g4⟩:=g.get (iH a);have e1:LH.sz=1:=rfl;rw[e1,Uv]at b j;obtain⟨f,rfl⟩:∃f,w=[f]:=by
   have:=LH.len g4
   match w,this with
   |[f],_=>exact⟨f,rfl⟩
  refine⟨t,k,f,by rw[vX _ _ _ _ _ _ a,EM,Uv],?_,ZO g4⟩;refine js e ?_;have c:((ds.drop k).take 1)[0]? =some f:=by rw[b];rfl
  rw[Vo (by omega),V0,SH]at c;exact c
end
open Un Dm
section
variable{F F':Nat->Prop}{h h':Hp}{cs:List Pc}{Q:fm}{u:U}{vv vb vs:V}{lb bx:Nat}{iT fR lw vl:V}{ins:List (List Bool)}{outs:List (List Bool×Nat)}{F0:Nat->Prop}
theorem VE{r:ly}{p:tg}{s:V}{c:Bool}{b:Nat}{cur out r0:List Bool}{q0:List Bool×Nat}(g:Good u)
  (q:er F h (fo eB fx cur vl::Oh u vv vb vs lb iT lw ins (fo LH fL outs fR) out cs)) (hu:Af F h u vv vb vs) (hb:b<3000) (w:ins[b]? =some r0) (x:outs[b]? =some q0)
  (aj:cur.length=u.ee.length) (ak:out.length=u.ee.length) (al:r0.length=u.ee.length) (am:q0.1.length=u.ee.length) (aa:SJ F0 outs) (ab:∀l,F0 l->F l)
  (H:∀F' h' d t,Sn F h F' h'->SJ F0 (outs.set b (out,t))->er F' h' (fo (eL eB) fL (ins.set b cur) iT::fo LH fL (outs.set b (out,t)) fR::ey lb 29 (uC u vv vb vs)::cs)->(d=false↔cur=r0/\out=q0.1)->
   p (.ptr lb 0) iT fR s (.bool (c ||d)) (.I ((b:Int)-1)) h') :
  iW CS Q r p (.ptr lb 0) iT fR s (.bool c) (.I b) lw vl h:=by
 have nv:=g.nv;have A:∀n:Nat,n<=3000->jt .i64 (((n:Nat):Int)-1)=(n:Int)-1:=λn hn=>by rw[iO (by simp only[Fb];omega)]
 unfold Oh at q;refine xg ?_;unfold oO
 refine yq (λk x1 B C f x6 x7 D j m h'=>∃(i:Nat) (d:Bool),x1 = .ptr lb 0/\B=iT/\C=fR/\f=s/\x6 = .bool (c ||d)/\x7 = .I b/\D=lw/\j=vl/\m = .I i/\i+k=u.ee.length/\h' = h/\(d=false↔cur.take i=r0.take i/\out.take i=q0.1.take i)) ?_ (k:=u.ee.length)
  ⟨0,false,rfl,rfl,rfl,rfl,by rw[Bool.or_false],rfl,rfl,rfl,rfl,by omega,rfl,by simp⟩
 rintro k x1 B C f x6 x7 D j m h' ⟨i,d,rfl,e2,e3,e4,rfl,rfl,e8,an,rfl,hk,e,hd⟩;subst B C f D j h';unfold qp;refine oF (q.ld 4 rfl rfl) (ec hu.v.len ?_);by_cases hi:i<u.ee.length
 ·refine hV ?_;obtain⟨y,hy⟩:∃y,cur[i]? =some y:=⟨_,iH (show i<cur.length by omega)⟩
  obtain⟨z,hz⟩:∃z,r0[i]? =some z:=⟨_,iH (show i<r0.length by omega)⟩
  obtain⟨y',E⟩:∃y,out[i]? =some y:=⟨_,iH (show i<out.length by omega)⟩
  obtain⟨z',G⟩:∃z,q0.1[i]? =some z:=⟨_,iH (show i<q0.1.length by omega)⟩
  obtain ⟨l1,o1,p1,p2⟩:=q.Gf 0 rfl hy .i64;obtain⟨l2,o2,p3,p4⟩:=q.Gf 1 rfl E .i64;obtain⟨l3,o3,w3,q1,q2,q3⟩:=q.OG 2 rfl w;obtain⟨l4,o4,w4,q4,q5,q6⟩:=q.XE 3 rfl x;obtain⟨l5,o5,_,t1,t2⟩:=q3.bool hz .i64;obtain⟨l6,o6,_,t3,t4⟩:=q6.bool G .i64;refine ec p1 (ec p2 (ec q1 (ec q2 (ec t1 (ec t2 (ec (Np _ _) ?_))))));have eO:mh (.bool (y != z)) (oB (some lw) λI=>oB (some (V.I i)) λJ=>oB (gy 1 I J) λK=>oB (en K h) λL=>oB (some fR) λM=>oB (some (V.I b)) λN=>oB (gy 1 M N) λO=>oB (en O h) λP=>oB (some (V.I i)) λR=>oB (gy 1 P R) λS=>oB (en S h) λT=>ef .neq 4 L T)=some (.bool ((y != z) ||(y' != z'))):=by
   simp only[eQ,p3,p4,q4,q5,t3,t4];rw[show ef .neq 4 (V.bool y') (V.bool z')=some (.bool (y' != z')) from zn y' z',iM]
  refine ec eO (je ?_);obtain⟨U,rfl⟩:=jw.1 hy;obtain⟨W,rfl⟩:=jw.1 hz;obtain⟨X,rfl⟩:=jw.1 E;obtain⟨Y,rfl⟩:=jw.1 G;have o:∀{a e:List Bool} (ha:i<a.length) (he:i<e.length),a.take (i+1)=e.take (i+1)↔a.take i=e.take i/\a[i]=e[i]:=by
   intro a e ha he;rw[KM ha,KM he];constructor
   ·intro h1;obtain⟨h2,h3⟩:=List.append_inj h1 (by simp;omega);exact⟨h2,by simpa using h3⟩
   ·rintro⟨h1,h2⟩;rw[h1,h2]
  have nx:∀d':Bool,(d' = false↔cur.take (i+1)=r0.take (i+1)/\out.take (i+1)=q0.1.take (i+1))->jM CS Q r p (λx1 B C f x6 x7 D j m h'=>∃k',k' < k/\∃(i:Nat) (d:Bool),x1 = .ptr lb 0/\B=iT/\C=fR/\f=s/\x6 = .bool (c ||d)/\x7 = .I b/\D=lw/\j=vl/\m = .I i/\i+k' = u.ee.length/\h' = h/\(d=false↔cur.take i=r0.take i/\out.take i=q0.1.take i))
    (.ptr lb 0) iT fR s (.bool (c ||d')) (.I b) lw vl (.I i) h:=by
   intro d' ac;refine xy ?_;unfold oU;exact gq ⟨k-1,by omega,i+1,d',rfl,rfl,rfl,rfl,rfl,rfl,rfl,rfl,rfl,by omega,rfl,ac⟩
  cases hq:(cur[i] != r0[i]) ||(out[i] != q0.1[i])with
  | true=>
    refine gU rfl ?_;have:=nx true ⟨λh=>(by cases h),λh=>by
      obtain⟨_,e1⟩:=(o U W).1 h.1;obtain⟨_,e2⟩:=(o X Y).1 h.2;rw[e1,e2]at hq;simp at hq⟩
    rwa [Bool.or_true]at this
  | false=>
    refine gB (by simp) (nx d ?_);rw[WG]at hq;have e1:cur[i]=r0[i]:=by simpa using hq.1
    have e2:out[i]=q0.1[i]:=by simpa using hq.2
    rw[hd,o U W,o X Y];exact⟨λh=>⟨⟨h.1,e1⟩,h.2,e2⟩,λh=>⟨h.1.1,h.2.1⟩⟩
 refine jG ?_;obtain rfl:i=u.ee.length:=by omega
 have ae:=(jw.1 w).1;have ag:=(jw.1 x).1;obtain⟨H1,s1,r1⟩:=q.mi 0 rfl;simp only[ot]at H1;obtain⟨l2,o2,h2,e1,e2,_,H2,s2⟩:=H1.AD 2 rfl (k:=b) (y:=cur) (u:=vl) ae rfl r1.one ⟨vl,rfl,r1⟩;refine ec e1 ?_;rw[e2,ej];simp only[AT,ot]at H2;obtain⟨t,Z,ah⟩:=(H2.row 1 rfl).toM;have ai:=H2.Z2 3 rfl;obtain⟨H3,s3,r3⟩:=H2.mi 1 rfl;simp only[AT,ot]at H3;obtain⟨l4,o4,h4,e3,e4,_,H4,s4⟩:=H3.AD 3 rfl (k:=b) (y:=(out,t)) (u:=lw) ag rfl r3.one Z;refine ec e3 ?_;rw[e4,ej];simp only[AT,ot]at H4;refine ec (iy _ _ _ _) ?_;rw[A b (by omega)];rw[JE (by omega),JE (by omega),JE (by omega),JE (by omega)]at hd;exact H _ h4 d t (((s1.trans s2).trans s3).trans s4) (aa.set ai (λl hl=>s1.mono l (ab l hl)) ah) H4.tail.tail hd
end
open Un Dm
section
variable{F F':Nat->Prop}{h h':Hp}{cs:List Pc}{Q:fm}{u:U}{vv vb vs:V}
theorem NZ{n:Nat}{ins:List (List Bool)}{R:List Bool}(b:ins.length=n)(h:∀j,j<n->ins[j]? =some R):ins=List.replicate n R:=
 List.eq_replicate_iff.2 ⟨b,λr c=>by
  obtain⟨j,a⟩:=mM.1 c;have:=h j (by have:=(jw.1 a).1;omega);rw[this]at a;exact(Option.some.inj a).symm⟩
theorem Pd(n m:Nat):iz (List.replicate n (List.replicate m false))=λ_ _=>False:=by
 funext b w;refine propext ⟨λ⟨r,c,a⟩=>?_,λh=>h.elim⟩;rw[SA (xu c)]at a;have:=SA (xu a);cases this
theorem Lw{ins:List (List Bool)}{i:Nat}{R:List Bool}(hi:i<ins.length)(h:∀j,j<i->ins[j]? =some R):∀j,j<i+1->(ins.set i R)[j]? =some R:=by
 intro j a;by_cases e:j=i
 ·subst e;exact G2 hi
 ·rw[Iv λh=>e h.symm];exact h j (by omega)
theorem NH(g:Good u)(H0:er F h cs)(hu:Af F h u vv vb vs)
  (H:∀F' h' iT fR ins outs,Sn F h F' h'->SJ F outs->er F' h' (fo LH fL outs fR::cs)->Jv u ins->Jv u (o1 outs)->lR u (gw u) (iz ins) (iz (o1 outs))->Q (.tuple [iT,fR]) h') :
  cP CS jP [.agg (uC u vv vb vs)] h Q:=by
 refine AA rfl rfl ?_;unfold td;have nv:=g.nv;have nb:=g.nb;have Oz:=g.Oz;refine qx H0 hu.one λq H1 s1=>?_;have u1:=hu.since s1;generalize h.next=lb at*;refine oF (H1.ld 0 rfl rfl) (ec u1.b.len ?_);rw[kM (z:=V.ed) rfl (by decide) (by omega),fJ];obtain⟨H2,s2⟩:=H1.make (E:=eL eB) (ty:=fL) (y:=[]) (u:=V.ed) u.blocks.length ⟨.ed,rfl,.inl ⟨rfl,rfl⟩⟩ rfl;generalize V.slice q.next 0 u.blocks.length=iT at*;generalize q.new (.cells fL 1 true false (List.replicate u.blocks.length V.ed))=h2 at*;rw[fJ];obtain⟨H3,s3⟩:=H2.make (E:=LH) (ty:=fL) (y:=([],0)) (u:=V.ed) u.blocks.length (.inl ⟨rfl,rfl⟩) rfl;generalize V.slice h2.next 0 u.blocks.length=fR at*;generalize h2.new (.cells fL 1 true false (List.replicate u.blocks.length V.ed))=h3 at*;have H3:=H3.sw;have aG:=(s1.trans s2).trans s3
 refine yc (λk T J K U x5 h'=>∃(F':Nat->Prop) (i:Nat) (ins:List (List Bool)) (outs:List (List Bool×Nat)),T = .ptr lb 0/\J=iT/\K=fR/\U = .I u.blocks.length/\x5 = .I i/\i+k=u.blocks.length/\Sn F h F' h'/\SJ F outs/\ins.length=u.blocks.length/\outs.length=u.blocks.length/\
  (∀j,j<i->ins[j]? =some (List.replicate u.ee.length false))/\(∀j,j<i->(o1 outs)[j]? =some (List.replicate u.ee.length false))/\
  er F' h' (fo (eL eB) fL ins iT::fo LH fL outs fR::ey lb 29 (uC u vv vb vs)::cs)) ?_ (k:=u.blocks.length)
  ⟨F,0,_,_,rfl,rfl,rfl,rfl,rfl,by omega,aG,⟨λi j x y hx _ _ hn=>absurd (by rw[SA (xu hx)]) hn,λx hx hn=>absurd (by rw[SA hx]) hn⟩,by simp,by simp,λj hj=>by omega,λj hj=>by omega,H3⟩
 rintro k T J K U x5 h4 ⟨F4,i,ins,outs,rfl,e2,e3,rfl,rfl,hk,s4,a4,ac,ae,hI,hO,H4⟩;subst J K;unfold qo;have u4:=hu.since s4;by_cases hi:i<u.blocks.length
 ·refine hV ?_;refine oF (H4.ld 2 rfl rfl) (ec u4.v.len ?_);rw[kM (z:=V.bool false) rfl (by decide) (by omega),fJ];obtain⟨H5,s5,r5⟩:=H4.JF (E:=eB) (xs:=List.replicate u.ee.length false) (n:=u.ee.length) fx rfl (by simp) (mE.rep (y:=false) rfl u.ee.length);generalize h4.new (.cells fx 1 true false (List.replicate u.ee.length (V.bool false)))=h5 at*;generalize (λl=>F4 l\/l=h4.next)=F5 at*;generalize V.slice h4.next 0 u.ee.length=w5 at*;obtain⟨l6,o6,L,e1,e2,_,O,W⟩:=H5.AD 0 rfl (k:=i) (y:=List.replicate u.ee.length false) (u:=w5) (by omega) rfl r5.one ⟨w5,rfl,r5⟩;refine ec e1 ?_;rw[e2,ej];simp only[ot]at O;have u6:=(u4.since s5).since W;refine oF (O.ld 2 rfl rfl) (ec u6.v.len ?_);rw[kM (z:=V.bool false) rfl (by decide) (by omega),fJ]
  have ah:LH.rel (λl=>F5 l\/l=L.next) (L.new (.cells fx 1 true false (List.replicate u.ee.length (V.bool false)))) (List.replicate u.ee.length false,L.next) [V.slice L.next 0 u.ee.length]:=
   .inr ⟨_,by simp,.inr rfl,ez _ _,mE.rep (y:=false) rfl u.ee.length,z0 rfl _⟩
  have a8:=a4.set (b:=i) (xs:=List.replicate u.ee.length false) (O.Z2 1 rfl) (λl hl=>(((s4.trans s5).trans W).mono l hl)) λ_=>O.fresh;obtain⟨H7,s7,r7⟩:=O.JF (E:=eB) (xs:=List.replicate u.ee.length false) (n:=u.ee.length) fx rfl (by simp) (mE.rep (y:=false) rfl u.ee.length);generalize L.new (.cells fx 1 true false (List.replicate u.ee.length (V.bool false)))=h7 at*;generalize (λl=>F5 l\/l=L.next)=F7 at*;generalize V.slice L.next 0 u.ee.length=w7 at*;generalize L.next=t7 at*;obtain⟨l8,o8,h8,e3,e4,_,H8,X⟩:=H7.AD 1 rfl (k:=i) (y:=(List.replicate u.ee.length false,t7)) (u:=w7) (by omega) rfl r7.one ah;refine ec e3 ?_;rw[e4,ej];simp only[AT,ot]at H8;exact gq ⟨k-1,by omega,F7,i+1,_,_,rfl,rfl,rfl,rfl,rfl,by omega,(((s4.trans s5).trans W).trans s7).trans X,a8,by simp[ac],by simp[ae],Lw (by omega) hI,by rw[Hw];exact Lw (by rw[Ix];omega) hO,H8⟩
 refine jG ?_;obtain rfl:i=u.blocks.length:=by omega
 have ei:=NZ ac hI;have eo:=NZ ((Ix _).trans ae) hO;subst ei;clear hI hO ac ae;have ai:Jv u (List.replicate u.blocks.length (List.replicate u.ee.length false)):=⟨by simp,λr hr=>by rw[SA hr];simp⟩
 have aH:Jv u (o1 outs):=by rw[eo];exact ai
 have Y:=Pd u.blocks.length u.ee.length
 refine yv (λk T J K U x6 h'=>∃(F':Nat->Prop) (c:Bool) (ins:List (List Bool)) (outs:List (List Bool×Nat)),T = .ptr lb 0/\J=iT/\K=fR/\U = .I u.blocks.length/\x6 = .bool c/\k=gQ ins+gQ (o1 outs)+(if c=true then 1 else 0)/\K3 u (gw u) (iz ins)/\Jv u ins/\Jv u (o1 outs)/\
  (∀b w,iz (o1 outs) b w->Cw u (gw u) (iz ins) b w)/\(c=false->∀b,b<u.blocks.length->(∀w,iz (o1 outs) b w↔Cw u (gw u) (iz ins) b w)/\∀w,iz ins b w↔wZ u b (iz (o1 outs) b) w)/\Sn F h F' h'/\SJ F outs/\
  er F' h' (fo (eL eB) fL ins iT::fo LH fL outs fR::ey lb 29 (uC u vv vb vs)::cs)) ?_
  (k:=gQ (List.replicate u.blocks.length (List.replicate u.ee.length false))+gQ (o1 outs)+1)
  ⟨F4,true,_,_,rfl,rfl,rfl,rfl,rfl,rfl,by rw[Y];exact .start _ _,ai,aH,λb w h=>by rw[eo,Y]at h;exact h.elim,λh=>(by cases h),s4,a4,H4⟩
 clear hk k;rintro k T J K U x6 h5 ⟨F5,c,ins,outs,rfl,e2,e3,rfl,rfl,hk,M,aj,ak,al,hc,s5,a5,H5⟩;subst J K;unfold qj
 cases c with
 | false=>
   refine je (gB (by simp) ?_);have am:=hc rfl
   exact H _ h5 iT fR ins outs s5 a5 H5.tail.vL aj ak ⟨λb w hb=>(am b hb).1 w,λb w hb=>(am b hb).2 w,M.least⟩
 | true =>
   refine je (gU rfl (tM (by omega) (by omega) ?_));rw[show((u.blocks.length-1:Nat):Int)=(u.blocks.length:Int)-1 by omega]
   refine yA (λk T J K U x6 x7 h'=>∃(F':Nat->Prop) (j:Nat) (c:Bool) (f:List (List Bool)) (a:List (List Bool×Nat)),T = .ptr lb 0/\J=iT/\K=fR/\U = .I (u.blocks.length:Nat)/\x6 = .bool c/\x7 = .I ((j:Int)-1)/\k=j/\j<=u.blocks.length/\K3 u (gw u) (iz f)/\Jv u f/\Jv u (o1 a)/\
     (∀b w,iz (o1 a) b w->Cw u (gw u) (iz f) b w)/\gQ f+gQ (o1 a)<=gQ ins+gQ (o1 outs)/\(c=true->gQ f+gQ (o1 a)<gQ ins+gQ (o1 outs))/\
     (c=false->∀b,j<=b->b<u.blocks.length->(∀w,iz (o1 a) b w↔Cw u (gw u) (iz f) b w)/\∀w,iz f b w↔wZ u b (iz (o1 a) b) w)/\Sn F h F' h'/\SJ F a/\
     er F' h' (fo (eL eB) fL f iT::fo LH fL a fR::ey lb 29 (uC u vv vb vs)::cs)) ?_ (k:=u.blocks.length)
     ⟨F5,u.blocks.length,false,ins,outs,rfl,rfl,rfl,rfl,rfl,rfl,rfl,jn _,M,aj,ak,al,jn _,λh=>(by cases h),λ_ b q h2=>by omega,s5,a5,H5⟩
   rintro k2 T J K U x6 x7 L ⟨F6,j,c,f,a,rfl,e2,e3,rfl,rfl,rfl,aV,hj,o,p,s,t,aW,Z,an,W,a6,O⟩;subst J K;unfold p8
   cases j with
   | zero=>
     refine CL (gB (by omega) ?_);refine⟨gQ f+gQ (o1 a)+(if c=true then 1 else 0),?_,F6,c,f,a,rfl,rfl,rfl,rfl,rfl,rfl,o,p,s,t,λaI b hb=>an aI b (GM _) hb,W,a6,O⟩;rw[hk,if_pos rfl]
     cases c with
     |true=>have:=Z rfl;rw[if_pos rfl];omega
     |false=>rw[if_neg (by simp)];omega
   | succ b=>
     rw[show(((b+1:Nat):Int)-1)=(b:Nat) by omega];refine CL (gU (by omega) ?_);have C:b<u.blocks.length:=by omega
     obtain⟨B,hB⟩:∃B,u.blocks[b]? =some B:=⟨_,iH C⟩
     have u6:=hu.since W;refine oF (O.ld 2 rfl rfl) (ec u6.v.len ?_);rw[kM (z:=V.bool false) rfl (by decide) (by omega),fJ];obtain⟨H7,s7⟩:=O.make (E:=eB) (ty:=fx) (y:=false) (u:=V.bool false) u.ee.length rfl rfl;generalize V.slice L.next 0 u.ee.length=lw at*;generalize L.new (.cells fx 1 true false (List.replicate u.ee.length (V.bool false)))=h7 at*;have u7:=u6.since s7;obtain⟨l8,o8,bv,bn,bp,_,i1,i2,iv,iN,ip,_⟩:=u7.wh hB;refine oF (H7.ld 3 rfl rfl) (ec i1 (ec i2 ?_));refine jy H7 rfl rfl (by simp only[lC,fc,iv.one,iN.one,ip.one];rfl) λh8 H8 X=>?_;generalize h7.next=bx at*;have u8:=u7.since X;refine Ya g (cs:=cs) H8 u8 hB (iN.since X) p.len p.row (by simp) (λw A=>by
       have:=SA (xu A);cases this) λh9 l9 s9 H9 aJ aK=>?_
     have u9:=u8.since s9;refine Tu g (cs:=cs) H9 u9 hB ((iN.since X).since s9) aJ λaX MK P aL ao aq=>?_;have ar:=u9.since P;refine VL g (cs:=cs) aL ar hB ao λaY aZ Ir R aM N au=>?_;have aw:=ar.since R;refine Tg g (cs:=cs) aM aw hB ((((iv.since X).since s9).since P).since R) N λa0 a1 cur vl ag aN ax aa=>?_;have aO:=aw.since ag;obtain⟨r0,D⟩:∃r,f[b]? =some r:=⟨_,iH (show b<f.length by rw[p.len];exact C)⟩
     obtain⟨q0,G⟩:∃r,a[b]? =some r:=⟨_,iH (show b<a.length by rw[<-Ix,s.len];exact C)⟩
     have ay:=p.row r0 (xu D);have az:=s.row q0.1 (xu (CR G));have aA:b<f.length:=by rw[p.len];exact C
     have aB:b<(o1 a).length:=by rw[s.len];exact C
     refine VE g (cs:=cs) aN aO (by omega) D G ax N ay az a6 (λl hl=>((((((W.trans s7).trans X).trans s9).trans P).trans R).trans ag).mono l hl) λaP a2 d t13 aQ aR aS hd=>?_;have S:∀w,On Ir w↔Cw u (gw u) (iz f) b w:=λw=>by
       rw[au w,aq w,aK w];unfold Cw EH;constructor
       ·rintro((q|q|q)|q)
        ·exact .inl q
        ·exact .inr (.inl q)
        ·exact .inr (.inr ⟨B,hB,.inl q⟩)
        ·exact .inr (.inr ⟨B,hB,.inr q⟩)
       ·rintro (q|q|⟨B',aC,q⟩)
        ·exact .inl (.inl q)
        ·exact .inl (.inr (.inl q))
        ·rw[hB]at aC;cases aC
         exact q.elim (λh=> .inl (.inr (.inr h))) .inr
     have aD:∀w,On cur w↔Un.Tr u (gw u) (iz f) b w:=λw=>by rw[aa w];exact wR S w
     have ab:iz (f.set b cur)=oH (iz f) b (Un.Tr u (gw u) (iz f) b):=by
       funext c w;refine propext ?_;rw[Eb aA];unfold oH;rw[aD w]
     have aE:∀c w,iz f c w->iz (f.set b cur) c w:=λc w A=>by
       rw[ab];by_cases e:c=b
       ·subst e;exact .inl ⟨rfl,o.up _ _ A⟩
       ·exact .inr ⟨e,A⟩
     obtain⟨f1,f2⟩:=BR (l:=cur) (r:=r0) (by omega) λw A=>(aD w).2 (o.up b w ((rJ D w).2 A));obtain⟨f3,f4⟩:=BR (l:=Ir) (r:=q0.1) (by omega) λw A=>(S w).2 (t b w ((rJ (CR G) w).2 A));have f5:=tI (row:=cur) D;have f6:=tI (row:=Ir) (CR G);rw[<-Hw a b Ir t13]at f6;refine⟨b,by omega,aP,b,c ||d,f.set b cur,a.set b (Ir,t13),rfl,rfl,rfl,rfl,rfl,rfl,rfl,by omega,by rw[ab];exact o.step C,p.set ax,by rw[Hw];exact s.set N,λb' w A=>?_,by omega,λI=>?_,λI b' q h2=>?_,((((((W.trans s7).trans X).trans s9).trans P).trans R).trans ag).trans aQ,aR,aS⟩
     ·rw[Hw,Eb aB]at A
      rcases A with⟨rfl,A⟩|⟨_,A⟩
      ·exact yS aE ((S w).1 A)
      ·exact yS aE (t b' w A)
     ·cases hq:d with
      | true=>
        have q:¬(cur=r0/\Ir=q0.1):=λh=>by
          have:=hd.2 h;rw[hq]at this;cases this
        by_cases e:cur=r0
        ·have:=f4 λe'=>q ⟨e,e'⟩
         omega
        ·have:=f2 e
         omega
      | false=>
        rw[hq]at I;have:=Z (by simpa using I);omega
     ·rw[WG]at I
      obtain ⟨e1,e2⟩:=hd.1 I.2;have aT:f.set b cur=f:=by
        refine Wd λm=>?_;by_cases e:m=b
        ·subst e;rw[G2 aA,D,e1]
        ·rw[Iv λh=>e h.symm]
      have aU:(o1 a).set b Ir=o1 a:=by
        refine Wd λm=>?_;by_cases e:m=b
        ·subst e;rw[G2 aB,CR G,e2]
        ·rw[Iv λh=>e h.symm]
      rw[aT,Hw,aU];by_cases e:b' = b
      ·subst e
       have aF:∀w,iz (o1 a) b' w↔On Ir w:=λw=>by rw[rJ (CR G) w,e2]
       refine⟨λw=>by rw[aF w,S w],λw=>?_⟩;rw[rJ D w,<-e1,aa w];exact(wR aF w).symm
      ·exact an I.1 b' (by omega) h2
end
