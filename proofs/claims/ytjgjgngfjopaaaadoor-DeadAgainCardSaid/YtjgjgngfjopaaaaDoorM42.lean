/- Parts. -/
import Derived.Test.YtjgjgngfjopaaaaDoorM41
namespace Go.Proofs.YtjgjgngfjopaaaaDoor.Hx
open Un Dm
def SB(u:U)(locals:List Int)(gS:Int)(fuel Eu b:Nat)(B:Bk):Ex ⊕ Rs->Ex
 | .inl e=>e
 | .inr s=>if fuel<=s.steps then .zK else if B.fin=3 then vh u {s with steps:=s.steps+1} B.state else match D1 B s with
   |none=> .stuck
   |some t=>runM u locals gS fuel Eu (some b) t {s with steps:=s.steps+1}
theorem Yr{u:U}{locals:List Int}{gS:Int}{fuel Eu b:Nat}{oA:Option Nat}{s:Rs}{B:Bk}(a:u.blocks[b]? =some B) :
  runM u locals gS fuel (Eu+1) oA b s=SB u locals gS fuel Eu b B (pB u gS fuel (B.ef.dropWhile (gR u)) (oi u locals oA B s)):=by
 unfold runM;simp only[a];cases pB u gS fuel (B.ef.dropWhile (gR u)) (oi u locals oA B s) <;> rfl
theorem zar{p:Nat->Bool}:∀(l:List Nat)(i:Nat),i<=l.length->(∀(m v:Nat),m<i->l[m]? =some v->p v=true)->(∀v,l[i]? =some v->p v=false)->l.takeWhile p=l.take i/\l.dropWhile p=l.drop i
 |[],i,h,_,_=>by simp
 | a::l,0,_,_,h=>by
   have:=h a rfl
   simp[this]
 | a::l,i+1,hl,b,d=>by
   have c:=b 0 a (by omega) rfl;obtain⟨e,f⟩:=zar l i (by simpa using hl) (λm v g hv=>b (m+1) v (by omega) (by simpa using hv)) λv hv=>d v (by simpa using hv);rw[List.takeWhile_cons,List.dropWhile_cons,if_pos c,if_pos c,e,f];exact⟨rfl,rfl⟩
def KA:Option Nat->Int
 |none=>-1
 |some p=>(p:Int)
section
variable{F F':Nat->Prop}{h h':Hp}{cs ds:List Pc}{Q:fy}{u:U}{vv vb vs mS u0 rm lT bv bn bp:V}{ef hp locals:List Int}{lu lr lh lb Th:Nat}{fS:LP}{gS:Int}{fuel steps polls b:Nat}{oA:Option Nat}{B:Bk}
abbrev Rn(ef:List Int) (mS:V) (lr lu:Nat) (u:U) (vv vb vs:V) (lh Th:Nat) (rm lT:V) (hp:List Int) (ds:List Pc):List Pc:=
 eR (eI .u64) zu ef mS::ev lr 76 [.I 0,.I 0,.I 0,.ee,.I 0]::ev lu 30 (uC u vv vb vs)::ev lh Th [rm,lT]::eR (eI .u64) zu hp lT::ds
abbrev Ws(u:U)(locals:List Int)(oA:Option Nat)(B:Bk)(ef:List Int)(v:Nat):Int:=LW u locals oA B (Cl ef) v
def Yf(oA:Option Nat)(B:Bk)(x:Vl)(ef:List Int):Int:=match oA with
 | some p=>match B.fg.findIdx? (·== p)with
   |some j=>Cl ef (x.args.getD j 0)
   |none=>0
 |none=>0
theorem zcz{v:Nat}{x:Vl}(a:u.ef[v]? =some x):Ws u locals oA B ef v=if x.op=1 then locals.getD x.n.toNat 0 else Yf oA B x ef:=by
 show LW u locals oA B (Cl ef) v=_;unfold LW Yf;simp only[a];cases oA <;> rfl
theorem zcs(g:Good u)(H0:en F h (ev lb 50 (kr B bv bn bp)::Rn ef mS lr lu u vv vb vs lh Th rm lT hp ds))(hu:A0 F h u vv vb vs)(A:iC (eI .u64) F h locals u0)(Z:ef.length=u.ef.length)(N:u.blocks[b]? =some B)(iv:iC eN F h B.ef bv)(ip:iC eN F h B.fg bp)(ll:locals.length<1000000000)
  (K:∀h' BS,Sn F h F h'->en F h' (eR (eI .u64) zu ((B.ef.takeWhile (gR u)).map (Ws u locals oA B ef)) BS::ev lb 50 (kr B bv bn bp)::Rn ef mS lr lu u vv vb vs lh Th rm lT hp ds)->
   jm CS Q fS [.ptr lh 0,u0,.I gS,.I fuel,.ptr lu 0,.ptr lr 0,mS,.I steps,.I polls,.I b,.ptr lb 0,BS,.I ((B.ef.takeWhile (gR u)).length:Nat)] h') :
  nY CS Q fS [.ptr lh 0,u0,.I gS,.I fuel,.ptr lu 0,.ptr lr 0,mS,.I steps,.I polls,.I b,.I (KA oA),.ptr lb 0,.ee,.I 0] h:=by
 have nv:=g.nv;have pf:∀{l o k:Nat},fH k (.ptr l o)=some (.ptr l (o+k)):=eJ _ _ _;have bq:∀{e sz:Nat} {a b:Bool} {cs:List V},O.beq (.cells e sz a b cs) (.cells e sz a b cs)=true:=O.gO _ _ _ _ _;have ak:B.ef.length<=u.ef.length:=jK _ B.ef (BR g N) λv hv=>by
  obtain⟨k,hk⟩:=mK.1 hv;exact g.mb v b k ⟨B,N,hk⟩
 obtain ⟨J,hJ⟩:∃J:Nat->LP,J=λk l h'=>∃(i:Nat) (BS:V),l=[.ptr lh 0,u0,.I gS,.I fuel,.ptr lu 0,.ptr lr 0,mS,.I steps,.I polls,.I b,.I (KA oA),.ptr lb 0,BS,.I i]/\i+k=B.ef.length/\Sn F h F h'/\
   (∀(m v:Nat),m<i->B.ef[m]? =some v->gR u v=true)/\en F h' (eR (eI .u64) zu ((B.ef.take i).map (Ws u locals oA B ef)) BS::ev lb 50 (kr B bv bn bp)::Rn ef mS lr lu u vv vb vs lh Th rm lT hp ds):=⟨_,rfl⟩
 refine CA J (λk x1 x2 x3 x4 x5 al am an ao ap aq ar BS au P hi=>?_) (k:=B.ef.length) ?_;rotate_left
 ·rw[hJ];exact⟨0,.ee,rfl,by omega,Sn.refl _ _,λm v h=>by omega,H0.add (p:=eR (eI .u64) zu [] .ee) .nil λ_ h=>h⟩
 clear H0;rw[hJ]at hi;obtain⟨i,_,⟨⟩,hk,D,hh,C⟩:=hi;unfold uM;have R:=iv.since D;have u1:=hu.since D;have fin:∀{S},Sn F P F S->(∀v,B.ef[i]? =some v->gR u v=false)->en F S (eR (eI .u64) zu ((B.ef.take i).map (Ws u locals oA B ef)) BS::ev lb 50 (kr B bv bn bp)::Rn ef mS lr lu u vv vb vs lh Th rm lT hp ds)->jm CS Q fS [.ptr lh 0,u0,.I gS,.I fuel,.ptr lu 0,.ptr lr 0,mS,.I steps,.I polls,.I b,.ptr lb 0,BS,.I i] S:=λ{S} s2 T H2=>by
  have e:=(zar (p:=gR u) B.ef i (by omega) hh T).1;have K2:=K S BS (D.trans s2) (by rw[e];exact H2);rw[e,GX,wBx (by omega)]at K2;exact K2
 have c0:ez (.ptr lb (0+0)) P=some bv:=C.ld 1 rfl rfl;have c2:ez (.ptr lu (0+2)) P=some vv:=C.ld 4 rfl rfl;refine oF c0 (ed R.len ?_);by_cases hi:i<B.ef.length;rotate_left
 ·exact iI (fin (Sn.refl _ _) (λv hv=>by rw[KT (by omega)]at hv;cases hv) C)
 refine gG ?_;have hv:=gP hi;have aa:=M9 hi;generalize B.ef[i]=v at*;have U:At u v b i:=⟨B,N,hv⟩
 have ab:=g.mb v b i U;have L:=gP ab;generalize u.ef[v]=x at*;obtain⟨l1,o1,ac,p1,p2⟩:=R.nat hv .i64;obtain⟨l2,o2,xa,ae,q1,q2,xr,_⟩:=u1.val L;refine oF c2 (oF c0 (ed p1 (ed p2 (ed q1 (ed q2 ?_)))));rw[hK];obtain⟨H2,s2⟩:=C.zf 46 [.I 0,.I 0,.I 0,.I 0,.ee,.I 0];refine⟨⟨fi _ _,bq⟩,FI q2 (fo _ (C.fl _ ae)),iF p2 (fo _ (C.fl _ ac)),iF c0 (fo _ (Pc.BV C 1 rfl)),iF c2 (fo _ (Pc.BV C 4 rfl)),?_⟩;obtain⟨h3,e3,n3,f,s3⟩:=H2.XP 0 (n:=6) (ws:=mz x xa) rfl rfl rfl (by simp only[mz,eQ,xr.one];rfl);rw[e3,ei];simp only[iY]at f;generalize P.next=lc at*;refine⟨n3,oF (f.ld 0 rfl rfl) (gj ?_)⟩;have c:=s2.trans s3;have s:=zcz (locals:=locals) (oA:=oA) (B:=B) (ef:=ef) L
 have t:∀{E w},Sn F P F E->gR u v=true->tH .u64 w->w=Ws u locals oA B ef v->en F E (ev lc 46 (mz x xa)::eR (eI .u64) zu ((B.ef.take i).map (Ws u locals oA B ef)) BS::ev lb 50 (kr B bv bn bp)::Rn ef mS lr lu u vv vb vs lh Th rm lT hp ds)->
   iW CS Q fS (CE J k) [.ptr lh 0,u0,.I gS,.I fuel,.ptr lu 0,.ptr lr 0,mS,.I steps,.I polls,.I b,.I (KA oA),.ptr lb 0,BS,.I i,.int .u64 w] E:=λ{E w} s4 d hw he H4=>by
  refine BH ?_;unfold th;rw[zY,fE];obtain⟨G,h5,e5,_,H5,s5⟩:=H4.tU 1 rfl (jM:=8) (BN:=83) (y:=w) (w:=[.int .u64 w]) (ro:=false) ⟨rfl,hw⟩ (by decide) (by decide) (by simp;omega);rw[show fe 83 1 8 BS (.slice E.next 0 1) (E.new (.cells 83 1 true false [.int .u64 w]))=_ from e5,ei];simp only[iY,lj]at H5;refine fN ⟨k-1,by omega,?_⟩;rw[hJ];refine⟨i+1,G,rfl,by omega,(D.trans s4).trans s5,λm v' M r=>?_,?_⟩
  ·by_cases e:m=i
   ·subst e;rw[hv]at r;cases r;exact d
   ·exact hh m v' (by omega) r
  ·rw[aa,Ji,List.map_singleton,<-he];exact H5.tail
 have H:gR u v=iH x.op:=by unfold gR;simp only[L]
 by_cases W:x.op=1
 ·obtain⟨n0,aw,_⟩:=g.param v x L W;have d:gR u v=true:=by rw[H,W];rfl
  rw[if_pos W]at s;obtain⟨n,T⟩:=Z5 n0;rw[T]at s;have s:Ws u locals oA B ef v=locals.getD n 0:=s;refine gw (by omega) (oF (show _=some (.I (n:Int)) by rw[f.ld (o:=0+3) 0 rfl rfl,T]) (ed (A.since (D.trans c)).len (W3 ?_)));by_cases cl:n<locals.length
  ·have X:=gP cl;obtain⟨l5,o5,_,r1,r2,r3⟩:=(A.since (D.trans c)).word X .i64;refine gw (by omega) (oF (show _=some (.I (n:Int)) by rw[f.ld (o:=0+3) 0 rfl rfl,T]) (ed r1 (ed r2 (t c d r3 ?_ f))));rw[s,BO,X];rfl
  ·refine gi (by omega) (t c d za ?_ f);rw[s,BO,KT (by omega)];rfl
 refine gi (by omega) (oF (f.ld 0 rfl rfl) (gj ?_));rw[if_neg W]at s;by_cases z:x.op=21;rotate_left
 ·exact gi (by omega) (fin c (λv' r=>by rw[hv]at r;cases r;rw[H];unfold iH;rw[Bool.or_eq_false_iff,MU,MU];exact⟨W,z⟩) f.tail)
 have d:gR u v=true:=by rw[H,z];rfl
 refine gw (by omega) ?_;obtain⟨_,ax⟩:=g.Ko v b i x B U L z N;have ay:=Dn g N;have Y:=ip.since (D.trans c);have ag:=xr.since c;refine B4 (λk4 l h'=>∃j:Nat,l=[.ptr lh 0,u0,.I gS,.I fuel,.ptr lu 0,.ptr lr 0,mS,.I steps,.I polls,.I b,.I (KA oA),.ptr lb 0,BS,.I i,.ptr lc 0,.int .u64 0,.I (j:Nat)]/\j+k4=B.fg.length/\h' = h3/\∀m:Nat,m<j->∀p,B.fg[m]? =some p->(p:Int)≠KA oA) ?_ (k:=B.fg.length) ⟨0,rfl,by omega,rfl,λm h=>by omega⟩;rintro k4 _ _ _ _ _ _ _ _ _ _ _ _ _ _ _ _ _ E ⟨j,⟨⟩,aA,rfl,I⟩;unfold ui;refine oF (f.ld 2 rfl rfl) (ed Y.len ?_);by_cases hj:j<B.fg.length;rotate_left
 ·refine iI (t c d za ?_ f);rw[s]
  cases oA with
  |none=>rfl
  | some p=>
    have:B.fg.findIdx? (·== p)=none:=by
      rw[List.findIdx?_eq_none_iff];intro q hq;obtain⟨m,M⟩:=mK.1 hq;have:=I m (by have:=(iR.1 M).1;omega) q M;rw[MU];exact λe=>this (by rw[e];rfl)
    simp only[Yf,this]
 refine gG ?_;have hp:=gP hj;have aB:B.fg[j]=B.fg[j]:=rfl;generalize ah:B.fg[j]=p at hp;obtain⟨l5,o5,_,r1,r2⟩:=Y.nat hp .i64;refine oF (f.ld 2 rfl rfl) (ed r1 (ed r2 (gj ?_)));by_cases cp:(p:Int)=KA oA;rotate_left
 ·refine gi cp (fN ⟨k4-1,by omega,j+1,rfl,by omega,rfl,λm M q hq=>?_⟩);by_cases e:m=j
  ·subst e;rw[hp]at hq;cases hq;exact cp
  ·exact I m (by omega) q hq
 have ha:=gP (l:=x.args) (i:=j) (by omega);have ai:=zq (l:=x.args) (n:=j) (by omega);have aj:x.args[j]<ef.length:=by
  rw[Z];exact vD (g.use v x L _ (by unfold je;rw[if_pos z];exact ai))
 generalize x.args[j]=a at*;obtain⟨l6,o6,_,t1,t2⟩:=ag.nat ha .i64;obtain⟨l7,o7,y1,y2,y3,_⟩:=f.Kj 3 rfl (IK aj) .i64;refine gw cp (oF (f.ld 0 rfl rfl) (ed t1 (ed t2 (ed y1 (ed y2 (t c d y3 ?_ f))))));rw[s]
 cases oA with
 |none=>exact absurd cp (by simp only[KA];omega)
 | some p'=>
   have:B.fg.findIdx? (·== p')=some j:=by
     rw[List.findIdx?_eq_some_iff_getElem];refine⟨hj,?_,λm M=>?_⟩
     ·rw[ah,z8];exact Int.ofNat.inj cp
     ·have:=I m M _ (gP (by omega))
      simp only[Bool.not_eq_true,MU];exact λe=>this (by rw[e];rfl)
   simp only[Yf,this];rw[BO,ha];rfl
end
open Un Dm
theorem Qy(val:List Int)(l:List (Nat×Int))(p:Nat×Int):xo val (l++[p])=(xo val l).set p.1 p.2:=by
 unfold xo;rw[List.foldl_append];rfl
theorem U6{u:U}{gS:Int}{n:Nat}{x:Vl}{s:Rs}(h:x.op≠19/\x.op≠20/\x.op≠22/\x.op≠23):zk u gS n x s = .inr {s with val:=s.val.set n (Fs x s.of s.heap),steps:=s.steps+1}:=by
 unfold zk;rw[if_neg h.1,if_neg h.2.1,if_neg h.2.2.1,if_neg h.2.2.2]
theorem MG{u:U}{gS:Int}{fuel v:Nat}{l:List Nat}{s:Rs}{x:Vl}(a:¬fuel<=s.steps)(b:u.ef[v]? =some x):pB u gS fuel (v::l) s=match zk u gS v x s with
  | .inl e=> .inl e
  | .inr s=>pB u gS fuel l s:=by
 conv=>lhs;unfold pB
 simp only[b,if_neg a];cases zk u gS v x s <;> rfl
theorem So{u:U}{gS:Int}{fuel v:Nat}{l:List Nat} {s s':Rs}{x:Vl}(a:¬fuel<=s.steps)(b:u.ef[v]? =some x)(h:zk u gS v x s = .inr s'):pB u gS fuel (v::l) s=pB u gS fuel l s':=by
 rw[MG a b,h]
theorem Um{u:U}{gS:Int}{fuel v:Nat}{l:List Nat}{s:Rs}{e:Ex}{x:Vl}(a:¬fuel<=s.steps)(b:u.ef[v]? =some x)(h:zk u gS v x s = .inl e):pB u gS fuel (v::l) s = .inl e:=by
 rw[MG a b,h]
theorem Q6{u:U}{gS:Int}{fuel v:Nat}{l:List Nat}{s:Rs}(a:fuel<=s.steps):pB u gS fuel (v::l) s = .inl .zK:=by
 rw[pB,if_pos a]
theorem Nn{u:U}{s:Rs}{st:Nat}{fs:List Fm}(a:u.eh[st]? =some fs):vh u s st = .left s.steps (fs.map (Q5 s.val)) s.heap:=by
 unfold vh;rw[a];rfl
section
variable{F F':Nat->Prop}{h h':Hp}{cs ds:List Pc}{Q:fy}{u:U}{vv vb vs mS u0 rm lT bv bn bp BS:V}{ef hp locals:List Int}{lu lr lh lb Th:Nat}{fS:LP}{gS:Int}{fuel steps polls b:Nat}{oA:Option Nat}{B:Bk}
theorem SL{ws:List V}(d:en F h (ev lb 50 (kr B bv bn bp)::Rn ef mS lr lu u vv vb vs lh Th rm lT hp ds))(c:ws.length=5)(a:gv ws=true)(K:∀h',Sn F h F h'->en F h' (ev lh Th [rm,lT]::eR (eI .u64) zu hp lT::ds)->Q (.agg ws) h') :
  fm (gK 5 (.ptr lr 0) (.agg ws) h) λ_ a=>oP (gg 5 (.ptr lr 0) a) λr=>Q r a:=by
 obtain⟨e,f,_,b,g⟩:=d.XP 2 (n:=5) (ws:=ws) rfl c rfl a;rw[f,ei];simp only[iY,lj]at b;exact ed (b.wS 2 rfl c) (K e g b.tail.tail.tail.tail)
theorem zcL(g:Good u)(p:en F h (eR (eI .u64) zu ((B.ef.takeWhile (gR u)).map (Ws u locals oA B ef)) BS::ev lb 50 (kr B bv bn bp)::Rn ef mS lr lu u vv vb vs lh Th rm lT hp ds))(s:ef.length=u.ef.length)(e:u.blocks[b]? =some B)(t:iC eN F h B.ef bv)(hs:steps<100000000)
  (K:∀h',Sn F h F h'->en F h' (ev lb 50 (kr B bv bn bp)::Rn (xo ef ((B.ef.takeWhile (gR u)).map λv=>(v,Ws u locals oA B ef v))) mS lr lu u vv vb vs lh Th rm lT hp ds)->
   lJ CS Q fS [.ptr lh 0,u0,.I gS,.I fuel,.ptr lu 0,.ptr lr 0,mS,.I ((steps+(B.ef.takeWhile (gR u)).length:Nat):Int),.I polls,.I b,.ptr lb 0,.I ((B.ef.takeWhile (gR u)).length:Nat)] h') :
  jm CS Q fS [.ptr lh 0,u0,.I gS,.I fuel,.ptr lu 0,.ptr lr 0,mS,.I steps,.I polls,.I b,.ptr lb 0,BS,.I ((B.ef.takeWhile (gR u)).length:Nat)] h:=by
 have nv:=g.nv;have W:∀{l o k:Nat},fH k (.ptr l o)=some (.ptr l (o+k)):=eJ _ _ _;have w:B.ef.length<=u.ef.length:=jK _ B.ef (BR g e) λv hv=>by
  obtain⟨k,q⟩:=mK.1 hv;exact g.mb v b k ⟨B,e,q⟩
 have a:B.ef.takeWhile (gR u)++B.ef.dropWhile (gR u)=B.ef:=wBD;have f:∀(j v:Nat),(B.ef.takeWhile (gR u))[j]? =some v->B.ef[j]? =some v:=λj v hv=>by
  rw[<-a,Ot (iR.1 hv).1];exact hv
 have x:(B.ef.takeWhile (gR u)).length<=B.ef.length:=by
  have:=congrArg List.length a;rw[y6]at this;omega
 clear a;generalize B.ef.takeWhile (gR u)=hs at*;refine CB ?_;unfold uA
 obtain ⟨J,i⟩:∃J:Nat->LP,J=λk l h'=>∃j:Nat,l=[.ptr lh 0,u0,.I gS,.I fuel,.ptr lu 0,.ptr lr 0,mS,.I ((steps+j:Nat):Int),.I polls,.I b,.ptr lb 0,BS,.I hs.length,.I (j:Nat)]/\j+k=hs.length/\Sn F h F h'/\
   en F h' (eR (eI .u64) zu (hs.map (Ws u locals oA B ef)) BS::ev lb 50 (kr B bv bn bp)::Rn (xo ef ((hs.take j).map λv=>(v,Ws u locals oA B ef v))) mS lr lu u vv vb vs lh Th rm lT hp ds):=⟨_,rfl⟩
 refine Ct J (λk X Y Z x4 x5 z A C D E G H I L M hi=>?_) (k:=hs.length) ?_;rotate_left
 ·rw[i];exact⟨0,rfl,by omega,Sn.refl _ _,p⟩
 clear p;rw[i]at hi;obtain⟨j,⟨⟩,q,m,c⟩:=hi;unfold uu;by_cases hj:j<hs.length;rotate_left
 ·refine iI ?_;obtain rfl:j=hs.length:=by omega
  rw[Jh]at c;exact K M m c.tail
 refine gG ?_;have hv:=gP hj;have n:=M9 hj;generalize hs[j]=v at*;have d:=f j v hv;have N:=g.mb v b j ⟨B,e,d⟩;have O:(hs.map (Ws u locals oA B ef))[j]? =some (Ws u locals oA B ef v):=by rw[zG,hv];rfl
 obtain⟨l1,o1,_,p1,p2⟩:=(t.since m).nat d .i64;obtain⟨l2,o2,P,R,S,_⟩:=c.Kj 0 rfl O .i64;obtain⟨l3,o3,h2,r1,T,U,r,V⟩:=c.Ig 2 rfl (k:=v) (y:=Ws u locals oA B ef v) (u:= .int .u64 (Ws u locals oA B ef v)) (by rw[Dx];omega) rfl rfl ⟨rfl,S⟩;refine oF (c.ld 1 rfl rfl) (ed p1 (ed p2 (ed P (ed R (ed r1 ?_)))));rw[T,ei];simp only[iY,lj]at r;refine⟨U,fN (fN ⟨k-1,by omega,?_⟩)⟩;rw[i];refine⟨j+1,rfl,by omega,m.trans V,?_⟩;rw[n,Ji,List.map_singleton,Qy];exact r
def zcf(fr:List Fw):Prop:=fr.length<=1000/\∀f∈fr,f.locals.length<=1000/\f.stack.length<=1000
theorem Tu(g:Good u){st:Nat}{fs:List Fm}(a:u.eh[st]? =some fs):zcf (fs.map (Q5 ef)):=by
 obtain⟨_,e,b⟩:=g.st st fs a;refine⟨by rw[CD];omega,λf c=>?_⟩;obtain⟨x,d,rfl⟩:=K4.1 c;obtain⟨h,i,_⟩:=b x d;simp only[Q5,CD];omega
def ExR(F:Nat->Prop)(h:Hp)(e:Ex)(hp:List Int)(a d:Int)(w:V):Prop:=(e = .zK/\a=0/\w = .ee)\/∃(n:Nat)(fr:List Fw),e = .left n fr hp/\a=1/\d=(n:Int)/\iC Yd F h fr w/\zcf fr
end
