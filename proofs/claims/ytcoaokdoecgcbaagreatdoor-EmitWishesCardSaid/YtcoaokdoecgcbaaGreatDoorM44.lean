/- Parts. -/
import Derived.Test.YtcoaokdoecgcbaaGreatDoorM42
import Derived.Test.YtcoaokdoecgcbaaGreatDoorM43
set_option maxHeartbeats 4000000
namespace Go.Proofs.YtcoaokdoecgcbaaGreatDoor.Hx
open Un Dm
section
variable{F F':Nat->Prop}{h h':Hp}{cs:List Pc}{Q:fo}{u:U}{vv vb vs:V}
theorem Zz(H:Q (.bool true) h):cP CS qj [] h Q:=by
 let⟨fn,c,hf,hb⟩:=Rf
 exact cP.known hf hb (rfl) rfl rfl H
theorem YW(g:Good u)(j:u.ee.length<=390)(k:ej F h cs)(b:Ff F h u vv vb vs)
  (H:∀F' h' of xx fG In Out,Sn F h F' h'->ej F' h' (fu eZ fJ of xx::cs)->mK u (iy u) In Out->lI u Out of fG->Q (.tuple [.agg [xx,.I fG],.bool true]) h') :
  cP CS jx [.agg (uC u vv vb vs),.bool false] h Q:=by
 refine vE ?_;refine yq k b.one λA B lu l s1 m=>?_;rw[fH]
 let⟨o,a⟩:=l.Dy y0 [.ed,.I 0]
 refine qS (fN (by simp) (ec ((m.since a).xk rfl) ?_));refine TK g j o (b.since (s1.trans a)) λp c of xx fG In Out q d r s _=>?_;have e:gj [xx,V.I fG]=true:=by simp[ d.one 0 rfl];rfl
 refine ec rfl (ec rfl ?_);rw[fH]
 let⟨t,s4⟩:=d.Dy y0 [.ed,.I 0]
 let⟨C,v,_,f,w⟩:=t.Wh 0 rfl (ws:=[xx,.I fG]) rfl rfl e
 rw[show gw 2 (.ptr c.next 0) (.agg [xx,.I fG]) (c.new (.cells y0 1 true false [.ed,.I 0]))=_ from v,ef];refine ec (f.xk 0 rfl rfl) (ec (rfl) ?_)
 let⟨x,y,_,i,z⟩:=f.Wh 2 rfl (n:=2) rfl rfl e
 rw[y,ef];refine ec (i.xk 2 rfl rfl) ?_;exact H p x of xx fG In Out ((((s1.trans a).trans q).trans s4).trans (w.trans z)) i.tail.Em r s
theorem zbl(u:U):∃In Out,mK u (iy u) In Out:=by
 obtain⟨In,a⟩:∃In,In=λb w=>∀X,(∀b w,b<u.blocks.length->Un.Tr u (iy u) X b w->X b w)->X b w:=⟨_,rfl⟩
 have least:∀X,(∀b w,b<u.blocks.length->Un.Tr u (iy u) X b w->X b w)->∀b w,In b w->X b w:=λX d b w h=>by
  rw[a]at h;exact h X d
 have up:∀b w,b<u.blocks.length->Un.Tr u (iy u) In b w->In b w:=λb w c h=>by
  rw[a];exact λX d=>d b w c (Lw (least X d) h)
 have down:=λb w h=>
  least (λb w=>b<u.blocks.length/\Un.Tr u (iy u) In b w) (λb w c e=>⟨c,Lw (λb w h=>up b w h.1 h.2) e⟩) b w h
 exact⟨In,λb w=>Qd u (iy u) In b w,λ_ _ _=>Iff.rfl,λb w c=>⟨λh=>(down b w h).2,λh=>up b w c h⟩,least⟩
def JL(n:Nat):List Int:=(List.range n).map λi=>((16+i:Nat):Int)
theorem Pg{n i:Nat}(h:i<n):(JL n)[i]? =some ((16+i:Nat):Int):=by
 unfold JL;rw[wA8,wBv h];rfl
theorem VE{u:U}(g:Good u)(d:u.ee.length<=390)(Out:Nat->Nat->Prop):lI u Out (JL u.ee.length) u.ee.length:=by
 have ne:∀{v w:Nat},v<u.ee.length->w<u.ee.length->w≠v->(JL u.ee.length)[w]?≠(JL u.ee.length)[v]?:=λ{v w} hv a mD e=>by
  rw[Pg hv,Pg a]at e;have:=Option.some.inj e;omega
 refine⟨by simp[JL],by omega,by omega,λk b=>?_,λc i=>⟨λv hv _ j w f a _=>?_,λv hv w a _ mD=>ne (g.uz v c i hv) a mD⟩⟩
 ·unfold JL at b;obtain⟨i,hi,rfl⟩:=Ov.1 b;have:=List.mem_range.1 hi;unfold NQ;omega
 ·refine ne (g.uz v c i hv) (g.uz w c j a) λe=>?_;subst e;have:=(g.PD _ _ _ _ _ hv a).2;omega
abbrev zar:Nat:=37
theorem VK(Y:u.ee.length<=390)(E:ej F h cs)(j:Ff F h u vv vb vs)
  (H:∀F' h' xx,Sn F h F' h'->ej F' h' (fu eZ 3 (JL u.ee.length) xx::cs)->Q (.tuple [.agg [xx,.I u.ee.length],.bool true]) h') :
  cP CS jx [.agg (uC u vv vb vs),.bool true] h Q:=by
 refine vE ?_;refine yq E j.one λx y lu G s1 z=>?_;rw[fH]
 let⟨I,g⟩:=G.Dy zar [.ed,.I 0]
 refine qS (fX rfl (oF ((z.since g).ld rfl) (ec ((j.since s1).since g).v.len ?_)));refine ec (rfl) ?_;refine j5 I rfl rfl rfl λK L A=>?_;generalize y.next=B at*;generalize (y.new (.cells 37 1 true false [V.ed,V.I 0]))=M at*;generalize M.next=c at*;have m:=(s1.trans g).trans A;have N:(JL u.ee.length).length=u.ee.length:=by simp[JL]
 let J:Nat->LP:=λk O h'=>∃F' i w,O=[.ptr lu 0,.ptr B 0,.ptr c 0,.I (i:Nat)]/\i+k=u.ee.length/\Sn x K F' h'/\
   ej F' h' (fu eZ 3 ((JL u.ee.length).take i) w::fi c zar [w,.I u.ee.length]::fi B zar [.ed,.I 0]::cs)
 refine A8 J ?_ (k:=u.ee.length) (⟨x,0,.ed,rfl,by omega,.refl _ _,L.add .nil λ_ h=>h⟩);intro k _ _ _ _ p q;obtain⟨C,i,w,⟨⟩,Z,r,a⟩:=q;unfold se;have d:=(g.trans A).trans r;refine oF ((z.since d).ld rfl) (ec ((j.since s1).since d).v.len ?_);by_cases hi:i<u.ee.length
 ·have e:=JE (l:=JL u.ee.length) (i:=i) (by omega);have f:(JL u.ee.length)[i]=((16+i:Nat):Int):=by
   have:=Pg hi;rw[hN (by omega)]at this;exact Option.some.inj this
  rw[f]at e;refine gJ (oF (a.ld 1 rfl rfl) ?_);rw[iU,gz,gK (by simp[mR];omega),show 16+((i:Nat):Int)=((16+i:Nat):Int) by omega];rw[show iW 3 1 1 (.I 0) [(0,.I ((16+i:Nat):Int))]=some (.cells 3 1 true false [.I ((16+i:Nat):Int)],λl=> .slice l 0 1) from rfl,fH]
  let⟨P,D,s,_,b,t⟩:=a.tz 0 rfl (jh:=8) (NM:=3) (ro:=false) (w:=[.I ((16+i:Nat):Int)]) rfl (by decide) (by decide) (by simp;omega)
  rw[show fg 3 1 8 w (.slice p.next 0 1) (p.new (.cells 3 1 true false [.I ((16+i:Nat):Int)]))=_ from s,ef]
  let⟨h7,R,_,S,T⟩:=b.st 1 (o:=0+0) rfl (by simp) (b.one 0 rfl)
  refine ec pf ?_;rw[R,ef];refine fT ⟨k-1,by omega,?_⟩;exact⟨C,i+1,P,rfl,by omega,(r.trans t).trans T,by rw[e];exact S⟩
 refine iY ?_;obtain rfl:i=u.ee.length:=by omega
 have U:(JL u.ee.length).take u.ee.length=JL u.ee.length:=Vz (by omega);rw[U]at a;have c:eD (.ptr c (0+1)) p=some (.I u.ee.length):=a.ld 1 rfl rfl;refine ec (a.xk 1 rfl rfl) (ec (fx ..) (ec c (ec (gX _ _ _ _) ?_)));have W:gj [w,V.I u.ee.length]=true:=by simp[fh,a.one 0 rfl];rfl
 let⟨D,s,X,b,t⟩:=a.Wh 2 rfl (n:=2) (ws:=[w,.I u.ee.length]) rfl rfl W
 rw[s,ef];refine⟨X,b.ld 1 rfl rfl,ec (b.xk 2 rfl rfl) ?_⟩;rw[No (by omega)];exact H C D w ((m.trans r).trans t) b.Em.Em
variable{of:List Int}
theorem Xb(hp:JP u of){v:Nat}(hv:v<u.ee.length)(en:Bool):yP (lE (hO of v)) en:=by
 rcases hp v hv with h|h
 ·rw[show lE (hO of v)=⟨1,hO of v⟩ from if_pos (by omega)];exact(if_pos rfl).mpr ⟨h.1,by simp only;omega⟩
 ·rw[show lE (hO of v)=⟨2,hO of v-16⟩ from if_neg (by omega)];unfold yP;simp;omega
theorem zd0(g:Good u)(hp:JP u of){s:Nat}(hs:s<u.ez.length)(v:Int):Y6 (Rv u of s v):=by
 have h:=hN hs
 let⟨k,l,m⟩:=g.st s _ h
 have e:(Rv u of s v).iG=(u.ez[s]).map (frC of):=by unfold Rv;rw[h]
 unfold Y6;rw[e,Qv];refine⟨k,l,λf h=>?_⟩;obtain⟨y,n,rfl⟩:=Ov.1 h
 let⟨a,b,c,d⟩:=m y n
 refine⟨by simpa[frC]using a,by simpa[frC]using b,λx i=>?_,λx i=>?_⟩
 ·obtain⟨w,j,rfl⟩:=Ov.1 i;exact Xb hp (iC (c w j)) false
 ·obtain⟨w,j,rfl⟩:=Ov.1 i;exact Xb hp (iC (d w j)) false
theorem zbC(g:Good u)(hp:JP u of):∀x∈qf u of,Y6 x:=λx a=>by
 let⟨B,hB,a⟩:=Rb.1 a
 let⟨b,hb⟩:=mG.1 hB
 rcases vU.1 a with a|a
 ·let ⟨v,_,a⟩:=Rb.1 a
  unfold rJ at a;split at a
  ·rename_i y c;unfold Bv at a;split at a
   ·rename_i e;rw[Et.1 a];exact zd0 g hp (g.leave v y c (by unfold leaves;simpa using e)) _
   ·cases a
  ·cases a
 ·unfold Lv at a;split at a
  ·cases a
  ·rw[Et.1 a];exact zd0 g hp (by have:=g.fin b B hb;omega) _
theorem zbo(hp:JP u of):∀{i:Nat},i<=u.ee.length->∀x∈pZ u of i,yP x true
 |0,_,x,a=>nomatch a
 | i + 1,hi,x,a=>by
   have b:=zbo hp (i:=i) (by omega);unfold pZ at a;split at a
   ·split at a
    ·unfold V1 at a
     rcases wBJ a with a|rfl
     ·rcases vU.1 a with a|a
      ·exact b x a
      ·rw[wBh a]
       unfold yP;simp
     ·exact Xb hp (by omega) true
    ·exact b x a
   ·exact b x a
theorem zeN(g:Good u)(hp:JP u of)(b:Nn u.ee){l:List Ni}(c:EmitC u of l){m:Nat}(e:∀(t:Nat) T,u.blocks[t]? =some T->T.ee.length<=m)(f:u.blocks.length*(8*m+3)<=32768)(mD:(qf u of).length<1048576) :
  Qw (Ah l) l/\Vw (Ah l) (qf u of) (pZ u of u.ee.length)/\(∀x∈l,Bw l.length x)/\l.length<=32768:=by
 let⟨ok1,ok2,ok3⟩:=Xl g hp c e (by omega)
 have d:=zbZ b (by omega) λx a=>⟨(ok1 x a).1,λh=>by have:=(ok1 x a).2.1 h;omega,(ok1 x a).2.2⟩
 exact⟨d,⟨⟨l,d,λx a=>(ok1 x a).2.1⟩,zbo hp (jj _),zbC g hp⟩,λx a=>(ok1 x a).1,by omega⟩
structure zaZ (F:Nat->Prop) (h:Hp) (u:U) (lu ln:Nat) (vv vb vs wc we wn:V) (of:List Int) (fG:Int) (In Out:Nat->Nat->Prop) (l:List Ni):Prop where
 g:Good u
 A:mK u (iy u) In Out
 R:lI u Out of fG
 E:EmitC u of l
 ru:Ff F h u vv vb vs
 cu:Cl F h lu 34 (uC u vv vb vs)
 cn:Cl F h ln 29 (ntC u.func u.pc wc we wn)
 c:iD eY F h (Ah l) wc
 e:iD eEx F h (qf u of) we
 n:iD WT F h (pZ u of u.ee.length) wn
 d:Qw (Ah l) l
 ok:Vw (Ah l) (qf u of) (pZ u of u.ee.length)
 okl:∀x∈l,Bw l.length x
 ll:l.length<=32768
 le:(qf u of).length<100000
variable{wc we wn:V}{lu ln:Nat}{fG:Int}{In Out:Nat->Nat->Prop}{l:List Ni}
theorem zaZ.since(a:zaZ F h u lu ln vv vb vs wc we wn of fG In Out l)(s:Sn F h F' h'):zaZ F' h' u lu ln vv vb vs wc we wn of fG In Out l:=
 ⟨a.g,a.A,a.R,a.E,a.ru.since s,a.cu.since s,a.cn.since s,a.c.since s,a.e.since s,a.n.since s,a.d,a.ok,a.okl,a.ll,a.le⟩
theorem zds{own:Bool}(g:Good u)(a:u.ee.length<=390)(b:ej F h cs)(c:Ff F h u vv vb vs)
  (H:∀F' h' of xx fG In Out,Sn F h F' h'->ej F' h' (fu eZ fJ of xx::cs)->mK u (iy u) In Out->lI u Out of fG->Q (.tuple [.agg [xx,.I fG],.bool true]) h') :
  cP CS jx [.agg (uC u vv vb vs),.bool own] h Q:=by
 cases own with
 |false=>exact YW g a b c H
 | true=>
   let⟨In,Out,hA⟩:=zbl u
   exact VK a b c λF' h' xx s d=>H F' h' _ xx _ In Out s d hA (VE g a Out)
theorem ze9{ops a:List Int}{np:Int}{Z f:V}{own:Bool}{K:JF}(H0:ej F h cs)(i:iD (eI .i64) F h ops Z)(m:iD (eI .i64) F h a f)(ho:ops.length<9223372036854775808)
  (HK:∀F' h' u lu ln vv vb vs wc we wn of fG In Out l,Sn F h F' h'->ej F' h' cs->zaZ F' h' u lu ln vv vb vs wc we wn of fG In Out l->K (.ptr lu 0) (.ptr ln 0) (.bool true) (.I 0) (.bool true) h') :
  hV (mO 24 (.agg [Z,f,.I np])) h λv5 B=>oP (gi 3 v5 B) λC=>cP CS nY [C] B λD h2=>
  hV (some (.cells 34 1 true false [(V.I 0),(V.I 0),V.ed,V.ed,V.ed],λl=> .ptr l 0)) h2 λb E=>eJ (gw 5 b D E) λ_ G=>
  oP (gi 5 b G) λH=>cP CS jx [H,.bool own] G λn h5=>oP (rQ 0 n) λI=>oP (rQ 1 n) λJ=>
  hV (some (.cells 37 1 true false [V.ed,(V.I 0)],λl=> .ptr l 0)) h5 λo h6=>eJ (gw 2 o I h6) λ_ z=>
  oP (gi 5 b z) λL=>oP (gi 2 o z) λM=>cP CS BU [L,M] z λp N=>oP (rQ 0 p) λO=>oP (rQ 1 p) λP=>
  hV (some (.cells 29 1 true false [(V.I 0),(V.I 0),V.ed,V.ed,V.ed],λl=> .ptr l 0)) N λq h9=>eJ (gw 5 q O h9) λ_ Q=>
  cP CS qj [] Q λR S=>K b q J P R S:=by
 refine yq H0 (by simp[ i.one,m.one];rfl) λF1 B l5 H1 s1 c5=>?_;refine ec (c5.xk rfl) (zde H1 (i.since s1) (m.since s1) ho λF3 E w s3 H3 hw=>?_);obtain⟨vv,vb,vs,rfl,rv,rb,rs⟩:=hw;have ru:Ff F3 E (zG ops a np) vv vb vs:=⟨rv,rb,rs⟩
 have g:=QJ ops a np
 let⟨sz1,sz2⟩:=zcl ops a np
 let⟨bl1,_⟩:=UP ops a np
 have U:=Z6 ops a np;generalize zG ops a np=u at*;refine yR H3 rfl rfl ru.one λF4 G lu H4 s4 cu=>?_;have r:=ru.since s4;refine ec (cu.xk rfl) (zds g (by omega) H4 r λF5 h5 of xx fG In Out s5 H5 hA W=>?_);have X:=H5.one 0 rfl;refine ec rfl (ec rfl ?_);refine yR H5 rfl rfl (by simp[ X];rfl) λF6 h6 lp H6 s6 cp=>?_;have c:=s5.trans s6;have s:=r.since c;have x:=cu.since c;have Y:∀(t:Nat) T,u.blocks[t]? =some T->T.ee.length<=210:=λt T hT=>by
  have:=qH u.ee.length T.ee (FH g hT) λv hv=>by
   let⟨k,hk⟩:=mG.1 hv
   exact g.uz v t k ⟨T,hT,hk⟩
  omega
 have y:u.blocks.length*(8*210+3)<=32768:=by omega
 have aa:=RA (of:=of) Y;refine ec (x.xk rfl) (ec (cp.xk rfl) (zdb g H6 s (j:=0) rfl hA W Y y λF7 z wc we wn l s7 H7 hE rc re rn=>?_))
 let⟨d,ok,okl,ll⟩:=zeN g (Ur g W) U hE Y y (by omega)
 refine ec rfl (ec rfl ?_);refine yR H7 rfl rfl (by simp only[fh,rc.one,re.one,rn.one];rfl) λF8 N ln H8 A cn=>Zz ?_;have e:=s7.trans A;exact HK F8 N u lu ln vv vb vs wc we wn of fG In Out l ((((s1.trans s3).trans s4).trans c).trans e) H8.tail ⟨g,hA,W,hE,s.since e,x.since e,cn,rc.since A,re.since A,rn.since A,d,ok,okl,ll,by omega⟩
