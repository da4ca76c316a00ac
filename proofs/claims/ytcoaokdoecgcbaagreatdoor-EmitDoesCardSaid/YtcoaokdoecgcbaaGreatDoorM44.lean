/- Parts. -/
import Derived.Test.YtcoaokdoecgcbaaGreatDoorM42
import Derived.Test.YtcoaokdoecgcbaaGreatDoorM43
set_option maxHeartbeats 4000000
namespace Go.Proofs.YtcoaokdoecgcbaaGreatDoor.Hx
open Un Dm
section
variable{F F':Nat->Prop}{h h':Hp}{cs:List Pc}{Q:fj}{u:U}{vv vb vs:V}
theorem zaT(H:Q (.bool true) h):cP CS ql [] h Q:=by
 let⟨fn,c,hf,hb⟩:=SR
 exact cP.known hf hb (rfl) rfl rfl H
theorem zat(g:Good u)(j:u.ee.length<=390)(k:ej F h cs)(b:EZ F h u vv vb vs)
  (H:∀F' h' of xW fF In Out,Sn F h F' h'->ej F' h' (ft eZ fN of xW::cs)->mn u (iu u) In Out->kK u Out of fF->Q (.tuple [.agg [xW,.I fF],.bool true]) h') :
  cP CS ju [.agg (uC u vv vb vs),.bool false] h Q:=by
 refine vL ?_;refine tR k b.one λA B lu l s1 m=>?_;rw[fK]
 let⟨o,a⟩:=l.xC y5 [.ed,.I 0]
 refine py (fH (by simp) (ec ((m.since a).tj rfl) ?_));refine VR g j o (b.since (s1.trans a)) λp c of xW fF In Out q d r s _=>?_;have e:gi [xW,V.I fF]=true:=by simp[ d.one 0 rfl];rfl
 refine ec rfl (ec rfl ?_);rw[fK]
 let⟨t,s4⟩:=d.xC y5 [.ed,.I 0]
 let⟨C,v,_,f,w⟩:=t.Tw 0 rfl (ws:=[xW,.I fF]) rfl rfl e
 rw[show gj 2 (.ptr c.next 0) (.agg [xW,.I fF]) (c.new (.cells y5 1 true false [.ed,.I 0]))=_ from v,eh];refine ec (f.tj 0 rfl rfl) (ec (rfl) ?_)
 let⟨x,y,_,i,z⟩:=f.Tw 2 rfl (n:=2) rfl rfl e
 rw[y,eh];refine ec (i.tj 2 rfl rfl) ?_;exact H p x of xW fF In Out ((((s1.trans a).trans q).trans s4).trans (w.trans z)) i.tail.Eu r s
theorem za6(u:U):∃In Out,mn u (iu u) In Out:=by
 obtain⟨In,a⟩:∃In,In=λb w=>∀X,(∀b w,b<u.blocks.length->Un.Tr u (iu u) X b w->X b w)->X b w:=⟨_,rfl⟩
 have least:∀X,(∀b w,b<u.blocks.length->Un.Tr u (iu u) X b w->X b w)->∀b w,In b w->X b w:=λX d b w h=>by
  rw[a]at h;exact h X d
 have up:∀b w,b<u.blocks.length->Un.Tr u (iu u) In b w->In b w:=λb w c h=>by
  rw[a];exact λX d=>d b w c (LJ (least X d) h)
 have down:=λb w h=>
  least (λb w=>b<u.blocks.length/\Un.Tr u (iu u) In b w) (λb w c e=>⟨c,LJ (λb w h=>up b w h.1 h.2) e⟩) b w h
 exact⟨In,λb w=>PO u (iu u) In b w,λ_ _ _=>Iff.rfl,λb w c=>⟨λh=>(down b w h).2,λh=>up b w c h⟩,least⟩
def KQ(n:Nat):List Int:=(List.range n).map λi=>((16+i:Nat):Int)
theorem QL{n i:Nat}(h:i<n):(KQ n)[i]? =some ((16+i:Nat):Int):=by
 unfold KQ;rw[wBH,wBs h];rfl
theorem XO{u:U}(g:Good u)(d:u.ee.length<=390)(Out:Nat->Nat->Prop):kK u Out (KQ u.ee.length) u.ee.length:=by
 have ne:∀{v w:Nat},v<u.ee.length->w<u.ee.length->w≠v->(KQ u.ee.length)[w]?≠(KQ u.ee.length)[v]?:=λ{v w} hv a nw e=>by
  rw[QL hv,QL a]at e;have:=Option.some.inj e;omega
 refine⟨by simp[KQ],by omega,by omega,λk b=>?_,λc i=>⟨λv hv _ j w f a _=>?_,λv hv w a _ nw=>ne (g.uP v c i hv) a nw⟩⟩
 ·unfold KQ at b;obtain⟨i,hi,rfl⟩:=V7.1 b;have:=List.mem_range.1 hi;unfold OT;omega
 ·refine ne (g.uP v c i hv) (g.uP w c j a) λe=>?_;subst e;have:=(g.Rp _ _ _ _ _ hv a).2;omega
abbrev zbw:Nat:=37
theorem W5(Y:u.ee.length<=390)(E:ej F h cs)(j:EZ F h u vv vb vs)
  (H:∀F' h' xW,Sn F h F' h'->ej F' h' (ft eZ 3 (KQ u.ee.length) xW::cs)->Q (.tuple [.agg [xW,.I u.ee.length],.bool true]) h') :
  cP CS ju [.agg (uC u vv vb vs),.bool true] h Q:=by
 refine vL ?_;refine tR E j.one λx y lu G s1 z=>?_;rw[fK]
 let⟨I,g⟩:=G.xC zbw [.ed,.I 0]
 refine py (fO rfl (oF ((z.since g).ld rfl) (ec ((j.since s1).since g).v.len ?_)));refine ec (rfl) ?_;refine jX I rfl rfl rfl λK L A=>?_;generalize y.next=B at*;generalize (y.new (.cells 37 1 true false [V.ed,V.I 0]))=M at*;generalize M.next=c at*;have m:=(s1.trans g).trans A;have N:(KQ u.ee.length).length=u.ee.length:=by simp[KQ]
 let J:Nat->LP:=λk O h'=>∃F' i w,O=[.ptr lu 0,.ptr B 0,.ptr c 0,.I (i:Nat)]/\i+k=u.ee.length/\Sn x K F' h'/\
   ej F' h' (ft eZ 3 ((KQ u.ee.length).take i) w::eD c zbw [w,.I u.ee.length]::eD B zbw [.ed,.I 0]::cs)
 refine A7 J ?_ (k:=u.ee.length) (⟨x,0,.ed,rfl,by omega,.refl _ _,L.add .nil λ_ h=>h⟩);intro k _ _ _ _ p q;obtain⟨C,i,w,⟨⟩,Z,r,a⟩:=q;unfold sy;have d:=(g.trans A).trans r;refine oF ((z.since d).ld rfl) (ec ((j.since s1).since d).v.len ?_);by_cases hi:i<u.ee.length
 ·have e:=Ho (l:=KQ u.ee.length) (i:=i) (by omega);have f:(KQ u.ee.length)[i]=((16+i:Nat):Int):=by
   have:=QL hi;rw[hZ (by omega)]at this;exact Option.some.inj this
  rw[f]at e;refine gy (oF (a.ld 1 rfl rfl) ?_);rw[jf,gQ,gG (by simp[ml];omega),show 16+((i:Nat):Int)=((16+i:Nat):Int) by omega];rw[show iO 3 1 1 (.I 0) [(0,.I ((16+i:Nat):Int))]=some (.cells 3 1 true false [.I ((16+i:Nat):Int)],λl=> .slice l 0 1) from rfl,fK]
  let⟨P,D,s,_,b,t⟩:=a.pT 0 rfl (iU:=8) (MB:=3) (ro:=false) (w:=[.I ((16+i:Nat):Int)]) rfl (by decide) (by decide) (by simp;omega)
  rw[show fg 3 1 8 w (.slice p.next 0 1) (p.new (.cells 3 1 true false [.I ((16+i:Nat):Int)]))=_ from s,eh]
  let⟨h7,R,_,S,T⟩:=b.st 1 (o:=0+0) rfl (by simp) (b.one 0 rfl)
  refine ec pf ?_;rw[R,eh];refine fG ⟨k-1,by omega,?_⟩;exact⟨C,i+1,P,rfl,by omega,(r.trans t).trans T,by rw[e];exact S⟩
 refine iA ?_;obtain rfl:i=u.ee.length:=by omega
 have U:(KQ u.ee.length).take u.ee.length=KQ u.ee.length:=Xb (by omega);rw[U]at a;have c:ez (.ptr c (0+1)) p=some (.I u.ee.length):=a.ld 1 rfl rfl;refine ec (a.tj 1 rfl rfl) (ec (fo ..) (ec c (ec (iF _ _ _ _) ?_)));have W:gi [w,V.I u.ee.length]=true:=by simp[fe,a.one 0 rfl];rfl
 let⟨D,s,X,b,t⟩:=a.Tw 2 rfl (n:=2) (ws:=[w,.I u.ee.length]) rfl rfl W
 rw[s,eh];refine⟨X,b.ld 1 rfl rfl,ec (b.tj 2 rfl rfl) ?_⟩;rw[Ov (by omega)];exact H C D w ((m.trans r).trans t) b.Eu.Eu
variable{of:List Int}
theorem XG(hp:KZ u of){v:Nat}(hv:v<u.ee.length)(en:Bool):pq (lg (hO of v)) en:=by
 rcases hp v hv with h|h
 ·rw[show lg (hO of v)=⟨1,hO of v⟩ from if_pos (by omega)];exact(if_pos rfl).mpr ⟨h.1,by simp only;omega⟩
 ·rw[show lg (hO of v)=⟨2,hO of v-16⟩ from if_neg (by omega)];unfold pq;simp;omega
theorem ze2(g:Good u)(hp:KZ u of){s:Nat}(hs:s<u.eE.length)(v:Int):TX (Ss u of s v):=by
 have h:=hZ hs
 let⟨k,l,m⟩:=g.st s _ h
 have e:(Ss u of s v).gB=(u.eE[s]).map (frC of):=by unfold Ss;rw[h]
 unfold TX;rw[e,RC];refine⟨k,l,λf h=>?_⟩;obtain⟨y,n,rfl⟩:=V7.1 h
 let⟨a,b,c,d⟩:=m y n
 refine⟨by simpa[frC]using a,by simpa[frC]using b,λx i=>?_,λx i=>?_⟩
 ·obtain⟨w,j,rfl⟩:=V7.1 i;exact XG hp (iy (c w j)) false
 ·obtain⟨w,j,rfl⟩:=V7.1 i;exact XG hp (iy (d w j)) false
theorem zbz(g:Good u)(hp:KZ u of):∀x∈mJ u of,TX x:=λx a=>by
 let⟨B,hB,a⟩:=Sg.1 a
 let⟨b,hb⟩:=mz.1 hB
 rcases yX.1 a with a|a
 ·let ⟨v,_,a⟩:=Sg.1 a
  unfold tP at a;split at a
  ·rename_i y c;unfold EG at a;split at a
   ·rename_i e;rw[Hh.1 a];exact ze2 g hp (g.leave v y c (by unfold leaves;simpa using e)) _
   ·cases a
  ·cases a
 ·unfold Nv at a;split at a
  ·cases a
  ·rw[Hh.1 a];exact ze2 g hp (by have:=g.fin b B hb;omega) _
theorem zb5(hp:KZ u of):∀{i:Nat},i<=u.ee.length->∀x∈qQ u of i,pq x true
 |0,_,x,a=>nomatch a
 | i + 1,hi,x,a=>by
   have b:=zb5 hp (i:=i) (by omega);unfold qQ at a;split at a
   ·split at a
    ·unfold Yf at a
     rcases wBG a with a|rfl
     ·rcases yX.1 a with a|a
      ·exact b x a
      ·rw[wBd a]
       unfold pq;simp
     ·exact XG hp (by omega) true
    ·exact b x a
   ·exact b x a
theorem zgj(g:Good u)(hp:KZ u of)(b:Nn u.ee){l:List Ni}(c:EmitC u of l){m:Nat}(e:∀(t:Nat) T,u.blocks[t]? =some T->T.ee.length<=m)(f:u.blocks.length*(8*m+3)<=32768)(nw:(mJ u of).length<1048576) :
  Mq (xL l) l/\OI (xL l) (mJ u of) (qQ u of u.ee.length)/\(∀x∈l,AH l.length x)/\l.length<=32768:=by
 let⟨ok1,ok2,ok3⟩:=ZF g hp c e (by omega)
 have d:=zbg b (by omega) λx a=>⟨(ok1 x a).1,λh=>by have:=(ok1 x a).2.1 h;omega,(ok1 x a).2.2⟩
 exact⟨d,⟨⟨l,d,λx a=>(ok1 x a).2.1⟩,zb5 hp (jJ _),zbz g hp⟩,λx a=>(ok1 x a).1,by omega⟩
structure zdR (F:Nat->Prop) (h:Hp) (u:U) (lu ln:Nat) (vv vb vs wc we wn:V) (of:List Int) (fF:Int) (In Out:Nat->Nat->Prop) (l:List Ni):Prop where
 g:Good u
 A:mn u (iu u) In Out
 R:kK u Out of fF
 E:EmitC u of l
 ru:EZ F h u vv vb vs
 cu:Cl F h lu 34 (uC u vv vb vs)
 cn:Cl F h ln 29 (ntC u.func u.pc wc we wn)
 c:hD eY F h (xL l) wc
 e:hD eEx F h (mJ u of) we
 n:hD S9 F h (qQ u of u.ee.length) wn
 d:Mq (xL l) l
 ok:OI (xL l) (mJ u of) (qQ u of u.ee.length)
 okl:∀x∈l,AH l.length x
 ll:l.length<=32768
 le:(mJ u of).length<100000
variable{wc we wn:V}{lu ln:Nat}{fF:Int}{In Out:Nat->Nat->Prop}{l:List Ni}
theorem zdR.since(a:zdR F h u lu ln vv vb vs wc we wn of fF In Out l)(s:Sn F h F' h'):zdR F' h' u lu ln vv vb vs wc we wn of fF In Out l:=
 ⟨a.g,a.A,a.R,a.E,a.ru.since s,a.cu.since s,a.cn.since s,a.c.since s,a.e.since s,a.n.since s,a.d,a.ok,a.okl,a.ll,a.le⟩
theorem zeq{own:Bool}(g:Good u)(a:u.ee.length<=390)(b:ej F h cs)(c:EZ F h u vv vb vs)
  (H:∀F' h' of xW fF In Out,Sn F h F' h'->ej F' h' (ft eZ fN of xW::cs)->mn u (iu u) In Out->kK u Out of fF->Q (.tuple [.agg [xW,.I fF],.bool true]) h') :
  cP CS ju [.agg (uC u vv vb vs),.bool own] h Q:=by
 cases own with
 |false=>exact zat g a b c H
 | true=>
   let⟨In,Out,hA⟩:=za6 u
   exact W5 a b c λF' h' xW s d=>H F' h' _ xW _ In Out s d hA (XO g a Out)
theorem zgo{ops a:List Int}{np:Int}{Z f:V}{own:Bool}{K:KJ}(H0:ej F h cs)(i:hD (eI .i64) F h ops Z)(m:hD (eI .i64) F h a f)(ho:ops.length<9223372036854775808)
  (HK:∀F' h' u lu ln vv vb vs wc we wn of fF In Out l,Sn F h F' h'->ej F' h' cs->zdR F' h' u lu ln vv vb vs wc we wn of fF In Out l->K (.ptr lu 0) (.ptr ln 0) (.bool true) (.I 0) (.bool true) h') :
  gU (kZ 24 (.agg [Z,f,.I np])) h λv5 B=>oP (fZ 3 v5 B) λC=>cP CS nY [C] B λD h2=>
  gU (some (.cells 34 1 true false [(V.I 0),(V.I 0),V.ed,V.ed,V.ed],λl=> .ptr l 0)) h2 λb E=>eJ (gj 5 b D E) λ_ G=>
  oP (fZ 5 b G) λH=>cP CS ju [H,.bool own] G λn h5=>oP (qV 0 n) λI=>oP (qV 1 n) λJ=>
  gU (some (.cells 37 1 true false [V.ed,(V.I 0)],λl=> .ptr l 0)) h5 λo h6=>eJ (gj 2 o I h6) λ_ z=>
  oP (fZ 5 b z) λL=>oP (fZ 2 o z) λM=>cP CS Cq [L,M] z λp N=>oP (qV 0 p) λO=>oP (qV 1 p) λP=>
  gU (some (.cells 29 1 true false [(V.I 0),(V.I 0),V.ed,V.ed,V.ed],λl=> .ptr l 0)) N λq h9=>eJ (gj 5 q O h9) λ_ Q=>
  cP CS ql [] Q λR S=>K b q J P R S:=by
 refine tR H0 (by simp[ i.one,m.one];rfl) λF1 B l5 H1 s1 c5=>?_;refine ec (c5.tj rfl) (zeG H1 (i.since s1) (m.since s1) ho λF3 E w s3 H3 hw=>?_);obtain⟨vv,vb,vs,rfl,rv,rb,rs⟩:=hw;have ru:EZ F3 E (Ao ops a np) vv vb vs:=⟨rv,rb,rs⟩
 have g:=Sp ops a np
 let⟨sz1,sz2⟩:=zdA ops a np
 let⟨bl1,_⟩:=VP ops a np
 have U:=zbp ops a np;generalize Ao ops a np=u at*;refine ud H3 rfl rfl ru.one λF4 G lu H4 s4 cu=>?_;have r:=ru.since s4;refine ec (cu.tj rfl) (zeq g (by omega) H4 r λF5 h5 of xW fF In Out s5 H5 hA W=>?_);have X:=H5.one 0 rfl;refine ec rfl (ec rfl ?_);refine ud H5 rfl rfl (by simp[ X];rfl) λF6 h6 lp H6 s6 cp=>?_;have c:=s5.trans s6;have s:=r.since c;have x:=cu.since c;have Y:∀(t:Nat) T,u.blocks[t]? =some T->T.ee.length<=210:=λt T hT=>by
  have:=qG u.ee.length T.ee (FZ g hT) λv hv=>by
   let⟨k,hk⟩:=mz.1 hv
   exact g.uP v t k ⟨T,hT,hk⟩
  omega
 have y:u.blocks.length*(8*210+3)<=32768:=by omega
 have aa:=Sq (of:=of) Y;refine ec (x.tj rfl) (ec (cp.tj rfl) (zdq g H6 s (j:=0) rfl hA W Y y λF7 z wc we wn l s7 H7 hE rc re rn=>?_))
 let⟨d,ok,okl,ll⟩:=zgj g (Wm g W) U hE Y y (by omega)
 refine ec rfl (ec rfl ?_);refine ud H7 rfl rfl (by simp only[fe,rc.one,re.one,rn.one];rfl) λF8 N ln H8 A cn=>zaT ?_;have e:=s7.trans A;exact HK F8 N u lu ln vv vb vs wc we wn of fF In Out l ((((s1.trans s3).trans s4).trans c).trans e) H8.tail ⟨g,hA,W,hE,s.since e,x.since e,cn,rc.since A,re.since A,rn.since A,d,ok,okl,ll,by omega⟩
