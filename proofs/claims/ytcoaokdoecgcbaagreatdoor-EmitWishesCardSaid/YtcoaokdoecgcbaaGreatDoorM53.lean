/- Parts. -/
import Derived.Test.YtcoaokdoecgcbaaGreatDoorM52
import Derived.Test.YtcoaokdoecgcbaaGreatDoorM39
import Derived.Test.YtcoaokdoecgcbaaGreatDoorM51
import Derived.Test.YtcoaokdoecgcbaaGreatDoorM49
import Derived.KernelRfl
import Derived.Test.YtcoaokdoecgcbaaGreatDoorM44
set_option maxHeartbeats 4000000
namespace Go.Proofs.YtcoaokdoecgcbaaGreatDoor.Hx
open Un Dm
abbrev Qz:Nat:=76
def Qe(s:Ms)(st ex:Int):List V:=s.mem.map (V.int .u64)++[.I s.pc,.I s.steps,.I s.polls,.I st,.I ex]
structure yo (s:Ms):Prop where
 len:s.mem.length=416
 w:∀k,k<416->mR .u64 (rd s k)
section
variable{F F':Nat->Prop}{h h':Hp}{cs:List Pc}{Q:fo}{s:Ms}{st ex:Int}{i lm:Nat}
theorem zef(M:yo s){k:Nat}(a:k<416):(Qe s st ex)[k]? =some (.int .u64 (rd s k)):=by
 unfold Qe;rw[VQ (by rw[Qv,M.len];exact a),wA8];unfold rd;rw[Dz,hN (by rw[M.len];exact a)];rfl
theorem zfe(M:yo s){k:Nat}:(Qe s st ex)[416+k]? = ([.I s.pc,.I s.steps,.I s.polls,.I st,.I ex]:List V)[k]?:=by
 unfold Qe;rw[ZQ (by rw[Qv,M.len];omega),Qv,M.len,wBQ]
theorem zaG(M:yo s):(Qe s st ex).length=421:=by simp[Qe,M.len]
theorem zep(M:yo s){k:Nat}(a:k<416)(v:Int):(Qe s st ex).set k (.int .u64 v)=Qe {s with mem:=s.mem.set k v} st ex:=by
 unfold Qe;rw[List.set_append_left _ _ (by rw[Qv,M.len];exact a),List.map_set]
theorem zcW(M:yo s)(k:Nat)(v:V):(Qe s st ex).set (416+k) v=s.mem.map (V.int .u64)++([.I s.pc,.I s.steps,.I s.polls,.I st,.I ex]:List V).set k v:=by
 unfold Qe;rw[List.set_append_right _ _ (by rw[Qv,M.len];omega),Qv,M.len,wBQ]
theorem yo.put(M:yo s){k:Nat}{v:Int}(a:k<416)(hv:mR .u64 v):yo {s with mem:=s.mem.set k v}:=
 ⟨by simp[M.len],λj b=>by
  show mR .u64 ((s.mem.set k v).getD j 0);rw[HD (by rw[M.len];exact a)];split
  ·exact hv
  ·exact M.w j b⟩
theorem zfN(H:ej F h cs)(M:yo s)(hi:cs[i]? =some (fi lm Qz (Qe s st ex))){k o:Nat}(a:k<416)(e:o=k):eD (.ptr lm o) h=some (.int .u64 (rd s k)):=by
 subst e;exact H.ld i hi (zef M a)
theorem zeH(H:ej F h cs)(M:yo s)(hi:cs[i]? =some (fi lm Qz (Qe s st ex))){k o:Nat}(f:k<416)(e:o=k)(v:Int) :
  ∃h',gw 1 (.ptr lm o) (.int .u64 v) h=some (.val .undef h')/\h.next<=h'.next/\ej F h' (cs.set i (fi lm Qz (Qe {s with mem:=s.mem.set k v} st ex)))/\Sn F h F h':=by
 subst e
 let⟨h',a,b,c,d⟩:=H.st i hi (o:=o) (by rw[zaG M];omega) (u:= .int .u64 v) rfl
 rw[zep M f]at c;exact⟨h',a,b,c,d⟩
theorem pH{k:Nat}(a:k<16):rH 16 1 (.ptr lm (0+0)) (.I k)=some (.ptr lm (0+0+k*1)):=OI a
theorem W0{k:Nat}(a:k<400):rH 400 1 (.ptr lm (0+16)) (.I k)=some (.ptr lm (0+16+k*1)):=OI a
theorem Z5{op:Nat}(a:5<=op/\op<=16)(H:Q (.I ((op-2:Nat):Int)) h):cP CS pd [.I op] h Q:=by
 refine Jd ?_;have r:∀k,op=k+2->Q (.I (k:Int)) h:=λk e=>by
  subst e;exact H
 refine fD (je (λe=>r 3 (by omega)) λ_=>?_);refine fD (je (λe=>r 4 (by omega)) λ_=>?_);refine fD (je (λe=>r 5 (by omega)) λ_=>?_);refine fD (je (λe=>r 6 (by omega)) λ_=>?_);refine fD (je (λe=>r 7 (by omega)) λ_=>?_);refine fD (je (λe=>r 8 (by omega)) λ_=>?_);refine fD (je (λe=>r 9 (by omega)) λ_=>?_);refine fD (je (λe=>r 10 (by omega)) λ_=>?_);refine fD (je (λe=>r 11 (by omega)) λ_=>?_);refine fD (je (λe=>r 12 (by omega)) λ_=>?_);refine fD (je (λe=>r 13 (by omega)) λ_=>r 14 (by omega))
abbrev mcs(s:Ms)(st ex:Int)(lm lh Th:Nat)(rm qU:V)(ds:List Pc):List Pc:=fi lm Qz (Qe s st ex)::fi lh Th [rm,qU]::fu (eI .u64) DE s.heap qU::ds
variable{ds:List Pc}{lh Th:Nat}{rm qU w:V}{l:List Ni}{fk:Int}
theorem QR(H:ej F h cs)(M:yo s)(hi:cs[i]? =some (fi lm Qz (Qe s st ex))){k o:Nat}(f:k<5)(e:o=416+k)(v:Int) :
  ∃h',gw 1 (.ptr lm o) (.I v) h=some (.val .undef h')/\h.next<=h'.next/\ej F h' (cs.set i (fi lm Qz (s.mem.map (V.int .u64)++([.I s.pc,.I s.steps,.I s.polls,.I st,.I ex]:List V).set k (.I v))))/\Sn F h F h':=by
 subst e
 let⟨h',a,b,c,d⟩:=H.st i hi (o:=416+k) (by rw[zaG M];omega) (u:= .I v) rfl
 rw[zcW M]at c;exact⟨h',a,b,c,d⟩
theorem Hy(H:ej F h cs)(M:yo s)(hi:cs[i]? =some (fi lm Qz (Qe s st ex))){k o:Nat}{u:V}(e:o=416+k)(a:([.I s.pc,.I s.steps,.I s.polls,.I st,.I ex]:List V)[k]? =some u):eD (.ptr lm o) h=some u:=by
 subst e;exact H.ld i hi (by rw[zfe M];exact a)
theorem zdn(H0:ej F h (mcs s 0 ex lm lh Th rm qU ds))(M:yo s)(hl:iD eIn F h l w)(Ma:l.length<1000000){x:Ni}(hx:l[s.pc]? =some x)(ok:Bw l.length x)(aL:s.steps<1000000000)(aM:s.polls<1000000000)(hh:s.heap.length<1000000000)
  (H:∀F' h' s' o,iB fk x s=(s',o)->Sn F h F' h'->yo s'->s'.heap.length=s.heap.length->ej F' h' (mcs s' (if o.isSome=true then 1 else 0) (o.getD ex) lm lh Th rm qU ds)->Q (.tuple []) h'):cP CS nz [.ptr lm 0,w,.ptr lh 0,.I fk] h Q:=by
 have ab:=(j6.1 hx).1;refine Gk ?_;have Qq:=Hy H0 M (i:=0) rfl (k:=3) rfl rfl;have X:=Hy H0 M (i:=0) rfl (k:=0) rfl rfl
 let⟨l1,G,ws,_,i1,i2,P,_⟩:=hl.ix ab .i64
 have ac:=(j6.1 hx).2;rw[ac]at P;have P:=P;subst P;refine oN Qq (Eo (fX rfl ?_));refine oN X (ec (gX _ _ _ _) ?_);have e1:nr (.bool (decide (((s.pc:Nat):Int)<0))) (oB (some (V.ptr lm 0)) λaw=>oB (fR aw) λax=>oB (fV 416 ax) λay=>oB (eD ay h) λaz=>oB (some w) λaA=>oB (fM aA) λaB=>eh .geq 3 az aB)=some (.bool false):=by
  rw[JH (by omega),fe,eC,fe,fx,fe,X,fe,fe,hl.len,fe,jt,jB,JH (by omega)];rfl
 refine ec e1 ?_;refine gR (ec rfl (gR (ec rfl (gR (ec (eC _ _) (gR (ec (fx ..) (gR (ec X (gR (ec i1 (gR (ec i2 (gR (ec rfl (gR (ec hl.len (xu ?_))))))))))))))))));refine NK H0 λF1 h1 b s1 H1 hb=>?_;obtain rfl:b=true:=hb.2 ok;refine ec (rfl) (gf (fN (by simp) ?_));have ad:=Hy H1 M (i:=0) rfl (k:=0) rfl rfl
 let⟨l2,o2,ws,_,j1,j2,P,_⟩:=(hl.since s1).ix ab .i64
 rw[ac]at P;have P:=P;subst P;refine oN ad (ec j1 (ec j2 ?_));refine yR H1 rfl rfl rfl λS h3 lx H3 s3 c3=>?_;have ae:=Hy H3 M (i:=0) rfl (k:=0) rfl rfl;refine ec (eC _ _) (ec pf (oN ae (fT ?_)))
 let⟨h5,e5,_,H5,s5⟩:=QR H3 M (i:=0) rfl (k:=0) (o:=0+416) (by omega) rfl ((s.pc+1:Nat):Int)
 refine ec (eC _ _) (ec pf ?_);rw[e5,ef];have M5:yo {s with pc:=s.pc+1}:=⟨M.len,M.w⟩
 have H5:=H5;have ag:=Hy H5 M5 (i:=0) rfl (k:=1) rfl rfl;refine oN ag (fT ?_)
 let⟨A,e6,_,t,s6⟩:=QR H5 M5 (i:=0) rfl (k:=1) (o:=0+417) (by omega) rfl ((s.steps+1:Nat):Int)
 refine ec (eC _ _) (ec pf ?_);rw[e6,ef];have I:yo s.on:=⟨M.len,M.w⟩
 have t:ej S A (mcs s.on 0 ex lm lh Th rm qU ds):=t;have u:=((s1.trans s3).trans s5).trans s6;have c6:=(c3.since s5).since s6;have L:=M.w;have aC:∀a,mR .u64 (mN s.heap a):=λa=>by
  unfold mN;rcases Ss a.toNat s.heap.length with ah|aD
  ·let⟨_,_,_,_,g3,_⟩:=t.Nh 2 rfl (hN (l:=s.heap) ah) .i64
   rw[Dz,hN ah];exact g3
  ·rw[Dz,ZR aD];exact ti
 let⟨hop,hnum,⟨ha,ha0⟩,⟨hb',hb0⟩,⟨hc,hc0⟩⟩:=ok
 have x0:eD (.ptr lx (0+0)) A=some (.I x.op):=c6.ld rfl;have m:eD (.ptr lx (0+1)) A=some (.I x.a):=c6.ld rfl;have J:eD (.ptr lx (0+2)) A=some (.I x.b):=c6.ld rfl;have x3:eD (.ptr lx (0+3)) A=some (.I x.c):=c6.ld rfl;have x4:eD (.ptr lx (0+4)) A=some (.I x.n):=c6.ld rfl;have q:∀{k:Nat},k<16->eD (.ptr lm (0+0+k*1)) A=some (.int .u64 (rd s k)):=λ{k} Y=>zfN t I (i:=0) rfl (k:=k) (by omega) (by omega);have fin:∀{k o:Nat} {v:Int},k<416->o=k->mR .u64 v->iB fk x s=({s.on with mem:=s.on.mem.set k v},none)->∃d,gw 1 (.ptr lm o) (.int .u64 v) A=some (.val .undef d)/\A.next<=d.next/\Q (.tuple []) d:=λ{k o v} Y ho hv Z=>by
  let⟨d,f,p,B,C⟩:=zeH t I (i:=0) rfl Y ho v
  exact⟨d,f,p,H S d _ none Z (u.trans C) (I.put Y hv) rfl B⟩
 refine oF x0 (fD ?_);by_cases G:x.op=1
 ·let⟨d,f,p,g⟩:=fin (k:=x.a) (o:=0+0+x.a*1) (v:=qQ x.n) (by omega) (by omega) (xV _) (by unfold iB;rw[if_pos G];rfl)
  refine fX (by omega) (oF m (oF x4 (ec (by rw[gB,iV]) (ec (eC _ _) (ec (pH ha) ?_)))));rw[f,ef];exact⟨p,g⟩
 refine fN (by omega) (fD ?_);by_cases o2:x.op=2
 ·let⟨d,f,p,g⟩:=fin (k:=x.a) (o:=0+0+x.a*1) (v:=rd s x.b) (by omega) (by omega) (L _ (by omega)) (by unfold iB;rw[if_neg G,if_pos o2];rfl)
  refine fX (by omega) (oF m (oF J (ec (eC _ _) (ec (pH hb') (ec (q hb') (ec (eC _ _) (ec (pH ha) ?_)))))));rw[f,ef];exact⟨p,g⟩
 refine fN (by omega) (fD ?_);have T:x.op=3\/x.op=4->∃k:Nat,k<400/\x.n=k/\x.n.toNat=k:=λe=>by
  unfold sR at hnum;rw[if_neg (by omega),if_pos e]at hnum;exact⟨x.n.toNat,by omega,by omega,rfl⟩
 by_cases N:x.op=3
 ·let⟨k,Y,en,ek⟩:=T (.inl N)
  let⟨d,f,p,g⟩:=fin (k:=x.a) (o:=0+0+x.a*1) (v:=rd s (16+k)) (by omega) (by omega) (L _ (by omega)) (by unfold iB;rw[if_neg G,if_neg o2,if_pos N,ek];rfl)
  rw[en]at x4;refine fX (by omega) (oF m (oF x4 (ec (eC _ _) (ec (fx _ _ _) (ec (W0 Y) (ec (zfN t I (i:=0) rfl (k:=16+k) (by omega) (by omega)) (ec (eC _ _) (ec (pH ha) ?_))))))));rw[show rd s.on (16+k)=rd s (16+k) from rfl,f,ef];exact⟨p,g⟩
 refine fN (by omega) (fD ?_);by_cases R:x.op=4
 ·let⟨k,Y,en,ek⟩:=T (.inr R)
  let⟨d,f,p,g⟩:=fin (k:=16+k) (o:=0+16+k*1) (v:=rd s x.a) (by omega) (by omega) (L _ (by omega)) (by unfold iB;rw[if_neg G,if_neg o2,if_neg N,if_pos R,ek];rfl)
  rw[en]at x4;refine fX (by omega) (oF x4 (oF m (ec (eC _ _) (ec (pH ha) (ec (q ha) (ec (eC _ _) (ec (fx _ _ _) (ec (W0 Y) ?_))))))));rw[f,ef];exact⟨p,g⟩
 refine fN (by omega) (fD ?_);have val:x.op<=20->iB fk x s=({s.on with mem:=s.on.mem.set x.a (rZ (Hs x) (rd s) s.heap)},none):=λe=>Q0 ⟨by omega,e⟩;by_cases aE:x.op=17
 ·have O:rZ (Hs x) (rd s) s.heap=mN s.heap (rd s x.b) / 4294967296:=by unfold rZ Hs;simp only[aE];rfl
  refine fX (by omega) (oF m (oF J (ec (eC _ _) (ec (pH hb') (ec (q hb') (ec (eC _ _) ?_))))));refine XF t (i:=1) (j:=2) rfl rfl hh (L _ (by omega)) λhv=>?_
  let⟨d,f,p,g⟩:=fin (k:=x.a) (o:=0+0+x.a*1) (v:=mN s.heap (rd s x.b) / 4294967296) (by omega) (by omega) hv (by rw[val (by omega),O])
  refine⟨jj _,ec (by rw[gB,iV,HO hv]) (ec (pH ha) ⟨m,?_⟩)⟩;rw[show s.on.heap=s.heap from rfl,f,ef];exact⟨p,g⟩
 refine fN (by omega) (fD ?_);by_cases aF:x.op=18
 ·have O:rZ (Hs x) (rd s) s.heap=mN s.heap (rd s x.b) % 4294967296:=by unfold rZ Hs;simp only[aF];rfl
  refine fX (by omega) (oF m (oF J (ec (eC _ _) (ec (pH hb') (ec (q hb') (ec (eC _ _) ?_))))));refine Wm t (i:=1) (j:=2) rfl rfl hh (L _ (by omega)) λhv=>?_
  let⟨d,f,p,g⟩:=fin (k:=x.a) (o:=0+0+x.a*1) (v:=mN s.heap (rd s x.b) % 4294967296) (by omega) (by omega) hv (by rw[val (by omega),O])
  refine⟨jj _,ec (by rw[gB,iV,HO hv]) (ec (pH ha) ⟨m,?_⟩)⟩;rw[show s.on.heap=s.heap from rfl,f,ef];exact⟨p,g⟩
 refine fN (by omega) (fD ?_);by_cases aG:x.op=19
 ·have O:rZ (Hs x) (rd s) s.heap=mN s.heap (qQ (rd s x.b+qQ x.n)):=by unfold rZ Hs;simp only[aG];rfl
  refine fX (by omega) (oF m (oF J (ec (eC _ _) (ec (pH hb') (ec (q hb') (oF x4 (ec (by rw[gB,iV]) (ec (by rw[iU,iV]) (ec (eC _ _) ?_)))))))));refine Iw t (i:=1) (j:=2) rfl rfl hh (xV _) λhv=>?_
  let⟨d,f,p,g⟩:=fin (k:=x.a) (o:=0+0+x.a*1) (v:=mN s.heap (qQ (rd s x.b+qQ x.n))) (by omega) (by omega) hv (by rw[val (by omega),O])
  refine⟨jj _,ec (pH ha) ⟨m,?_⟩⟩;rw[show s.on.heap=s.heap from rfl,f,ef];exact⟨p,g⟩
 refine fN (by omega) (fD ?_);by_cases aH:x.op=20
 ·have O:rZ (Hs x) (rd s) s.heap=mN s.heap (qQ (qQ (rd s x.b+1)+rd s x.c)):=by unfold rZ Hs;simp only[aH];rfl
  refine fX (by omega) (oF m (oF J (ec (eC _ _) (ec (pH hb') (ec (q hb') (ec (by rw[iU,iV]) (oF x3 (ec (eC _ _) (ec (pH hc) (ec (q hc) (ec (by rw[iU,iV]) (ec (eC _ _) ?_))))))))))));refine Iw t (i:=1) (j:=2) rfl rfl hh (xV _) λhv=>?_
  let⟨d,f,p,g⟩:=fin (k:=x.a) (o:=0+0+x.a*1) (v:=mN s.heap (qQ (qQ (rd s x.b+1)+rd s x.c))) (by omega) (by omega) hv (by rw[val (by omega),O])
  refine⟨jj _,ec (pH ha) ⟨m,?_⟩⟩;rw[show s.on.heap=s.heap from rfl,f,ef];exact⟨p,g⟩
 refine fN (by omega) (fD ?_);by_cases y:x.op=21
 ·refine fX (by omega) (oF m (ec (eC _ _) (ec (pH ha) (ec (q ha) (oF x4 (ec (by rw[gB,iV]) (ec (by rw[iU,iV]) (oF J (ec (eC _ _) (ec (pH hb') (ec (q hb') ?_)))))))))));refine OG t (i:=1) (j:=2) rfl rfl hh (xV _) (L _ (by omega)) λd r C B=>⟨C.next,?_⟩
  exact H S d {s.on with heap:=Ea s.heap (qQ (rd s x.a+qQ x.n)) (rd s x.b)} none (by unfold iB;rw[if_neg G,if_neg o2,if_neg N,if_neg R,if_neg (by omega),if_pos y]) (u.trans C) ⟨M.len,M.w⟩ GZ B
 refine fN (by omega) (fD ?_);by_cases D:x.op=22
 ·refine fX (by omega) (oF m (ec (eC _ _) (ec (pH ha) (ec (q ha) (ec (by rw[iU,iV]) (oF J (ec (eC _ _) (ec (pH hb') (ec (q hb') (ec (by rw[iU,iV]) (oF x3 (ec (eC _ _) (ec (pH hc) (ec (q hc) ?_))))))))))))));refine OG t (i:=1) (j:=2) rfl rfl hh (xV _) (L _ (by omega)) λd r C B=>⟨C.next,?_⟩
  exact H S d {s.on with heap:=Ea s.heap (qQ (qQ (rd s x.a+1)+rd s x.b)) (rd s x.c)} none (by unfold iB;rw[if_neg G,if_neg o2,if_neg N,if_neg R,if_neg (by omega),if_neg y,if_pos D]) (u.trans C) ⟨M.len,M.w⟩ GZ B
 refine fN (by omega) (fD ?_);have jump:x.op=23\/x.op=24->iB fk x s=({s.on with pc:=x.n.toNat},none)->∃d,gw 1 (.ptr lm (0+416)) (.I x.n) A=some (.val .undef d)/\Q (.tuple []) d:=λe Z=>by
  unfold sR at hnum;rw[if_neg (by omega),if_neg (by omega),if_pos e]at hnum
  let⟨d,f,_,B,C⟩:=QR t I (i:=0) rfl (k:=0) (o:=0+416) (by omega) rfl x.n
  have en:x.n=((x.n.toNat:Nat):Int):=by omega
  refine⟨d,f,H S d _ none Z (u.trans C) ⟨M.len,M.w⟩ rfl ?_⟩;rw[en]at B;exact B
 by_cases E:x.op=23
 ·let⟨d,f,g⟩:=jump (.inl E) (by unfold iB;rw[if_neg G,if_neg o2,if_neg N,if_neg R,if_neg (by omega),if_neg y,if_neg D,if_pos E])
  refine fX (by omega) (oF x4 (ec (eC _ _) (ec pf ?_)));rw[f,ef];exact g
 refine fN (by omega) (fD ?_);have same:=λZ=>H S A _ none Z u I rfl t;by_cases K:x.op=24
 ·refine fX (by omega) (oF m (ec (eC _ _) (ec (pH ha) (ec (q ha) (fD ?_)))));have e:iB fk x s=(if rd s x.a=0 then{s.on with pc:=x.n.toNat} else s.on,none):=by unfold iB;rw[if_neg G,if_neg o2,if_neg N,if_neg R,if_neg (by omega),if_neg y,if_neg D,if_neg E,if_pos K]
  by_cases h0:rd s x.a=0
  ·rw[if_pos h0]at e
   let⟨d,f,g⟩:=jump (.inr K) e
   refine fX h0 (oF x4 (ec (eC _ _) (ec pf ?_)));rw[f,ef];exact g
  ·rw[if_neg h0]at e;exact fN h0 (same e)
 refine fN (by omega) (fD ?_);have leave:iB fk x s=(s.on,some x.n)->oP (fR (.ptr lm 0)) λai=>oP (fV 419 ai) λaj=>eJ (gw 1 aj (.I 1) A) λ_ ak=>oP (fV 4 (.ptr lx 0)) λal=>oP (eD al ak) λam=>oP (fR (.ptr lm 0)) λan=>oP (fV 420 an) λao=>eJ (gw 1 ao am ak) λ_ aI=>Q (.tuple []) aI:=λZ=>by
  refine ec (eC _ _) (ec pf ?_)
  let⟨d,f,_,B,C⟩:=QR t I (i:=0) rfl (k:=3) (o:=0+419) (by omega) rfl 1
  rw[f,ef];have B:=B;have aJ:eD (.ptr lx (0+4)) d=some (.I x.n):=(c6.since C).ld rfl;refine oF aJ (ec (eC _ _) (ec pf ?_))
  let⟨h8,e8,_,H8,s8⟩:=QR B I (i:=0) rfl (k:=4) (o:=0+420) (by omega) rfl x.n
  rw[e8,ef];exact H S h8 _ (some x.n) Z ((u.trans C).trans s8) I rfl H8
 by_cases aa:x.op=25
 ·refine fX (by omega) (oF m (ec (eC _ _) (ec (pH ha) (ec (q ha) (fD ?_)))));have e:iB fk x s=(s.on,if rd s x.a=0 then some x.n else none):=by unfold iB;rw[if_neg G,if_neg o2,if_neg N,if_neg R,if_neg (by omega),if_neg y,if_neg D,if_neg E,if_neg K,if_pos aa]
  by_cases h0:rd s x.a=0
  ·rw[if_pos h0]at e;exact fX h0 (leave e)
  ·rw[if_neg h0]at e;exact fN h0 (same e)
 refine fN (by omega) (fD ?_);by_cases aq:x.op=26
 ·have e:iB fk x s=if 0<=fk/\(s.polls:Int)=fk then(s.on,some x.n) else({s.on with polls:=s.polls+1},none):=by unfold iB;rw[if_neg G,if_neg o2,if_neg N,if_neg R,if_neg (by omega),if_neg y,if_neg D,if_neg E,if_neg K,if_neg aa,if_pos aq]
  have lp:eD (.ptr lm (0+418)) A=some (.I s.polls):=Hy t I (i:=0) rfl (k:=2) rfl rfl;refine fX (by omega) (ec (jt ..) (ec (a:= .bool (decide (0<=fk/\(s.polls:Int)=fk))) ?_ (gf ?_)))
  ·by_cases c:0<=fk
   ·rw[No c,xL];simp only[fe,eC,fx,lp,hZ];congr 2;rw[VC,Gi,xX];exact⟨λh=>⟨c,h⟩,λh=>h.2⟩
   ·rw[JH c,xF,JH λh=>c h.1]
  by_cases z:0<=fk/\(s.polls:Int)=fk
  ·rw[if_pos z]at e;exact fX (No z) (leave e)
  ·rw[if_neg z]at e;refine fN (by rw[xX];exact z) (oN lp (fT (ec (eC _ _) (ec pf ?_))))
   let⟨d,f,_,B,C⟩:=QR t I (i:=0) rfl (k:=2) (o:=0+418) (by omega) rfl ((s.polls+1:Nat):Int)
   rw[f,ef];exact H S d _ none e (u.trans C) ⟨M.len,M.w⟩ rfl B
 refine fN (by omega) (fD ?_);by_cases aN:x.op=27
 ·exact fX (by omega) (leave (by unfold iB;rw[if_neg G,if_neg o2,if_neg N,if_neg R,if_neg (by omega),if_neg y,if_neg D,if_neg E,if_neg K,if_neg aa,if_neg aq]))
 refine fN (by omega) ?_;have U:5<=x.op/\x.op<=16:=by clear hnum jump;omega
 have W:3<=x.op-2/\x.op-2<=14:=by omega
 have O:rZ (Hs x) (rd s) s.heap=if x.op=10\/x.op=11 then Mf (x.op-2) (rd s x.b) 0 else Mf (x.op-2) (rd s x.b) (rd s x.c):=by
  unfold rZ Hs;simp only;rw[if_neg (by omega),if_neg (by omega),if_neg (by omega),if_neg (by omega),if_neg (by omega)];by_cases c:x.op=10\/x.op=11
  ·rw[if_pos c,if_pos (by omega)]
  ·rw[if_neg c,if_neg (by omega)]
 have ar:∀c,(c=true↔x.op=10\/x.op=11)->lB Q [.ptr lx 0,.ptr lm (0+0),.bool c] A:=λc au=>by
  refine BH ?_;unfold tC
  cases c with
  | true=>
    have c1:=au.1 rfl
    let⟨d,f,p,g⟩:=fin (k:=x.a) (o:=0+0+x.a*1) (v:=Mf (x.op-2) (rd s x.b) 0) (by omega) (by omega) (Sc _ _ _) (by rw[val (by omega),O,if_pos c1])
    refine gf (fX rfl (ec (fx ..) (ec m (oF x0 (ec (fx ..) (ec J (ec (eC _ _) (ec (pH hb') (ec (q hb') (ec (eC _ _) (Z5 U ⟨jj _,q hb',J,m,?_⟩)))))))))));refine Lo (L _ (by omega)) ti W ⟨jj _,ec rfl (ec rfl (ec (pH ha) ⟨m,?_⟩))⟩;rw[f,ef]
    exact⟨p,g⟩
  | false=>
    have c1:¬(x.op=10\/x.op=11):=λh=>by have:=au.2 h;cases this
    let⟨d,f,p,g⟩:=fin (k:=x.a) (o:=0+0+x.a*1) (v:=Mf (x.op-2) (rd s x.b) (rd s x.c)) (by omega) (by omega) (Sc _ _ _) (by rw[val (by omega),O,if_neg c1])
    refine gf (fN (by simp) (ec (fx ..) (ec m (oF x0 (ec (fx ..) (ec J (ec (eC _ _) (ec (pH hb') (ec (q hb') (ec (fx ..) (ec x3 (ec (eC _ _) (ec (pH hc) (ec (q hc) (ec (eC _ _) (Z5 U ⟨jj _,q hc,x3,q hb',J,m,?_⟩))))))))))))))));refine Lo (L _ (by omega)) (L _ (by omega)) W ⟨jj _,ec rfl (ec rfl (ec (pH ha) ⟨m,?_⟩))⟩;rw[f,ef];exact⟨p,g⟩
 refine ec (hZ ..) (gf ?_);by_cases aK:x.op=10
 ·have e:(((x.op:Nat):Int) == 10)=true:=Gi.2 (by omega);rw[e];exact fX rfl (ar true ⟨λ_=> .inl aK,λ_=>rfl⟩)
 ·have e:(((x.op:Nat):Int) == 10)=false:=Yz.2 (by omega);rw[e];refine fN (by simp) (ec (hZ ..) (ar _ ?_));rw[Gi];omega
variable{i0:Nat}
theorem OT{f p:Int}{bs:List Nat}{ex:List Nx}{en:List Nl}{wc we wn:V}(H0:ej F h cs)(hc:iD eY F h bs wc)(he:iD eEx F h ex we)(D:iD WT F h en wn)(nb:bs.length<=2000000)(ne:ex.length<100000000)(nn:en.length<100000000)
  (H:∀F' h' b,Sn F h F' h'->ej F' h' cs->(b=true↔Vw bs ex en)->Q (.bool b) h'):cP CS mq [.agg (ntC f p wc we wn)] h Q:=by
 refine zl ?_;refine yq H0 (by simp only[fh,hc.one,he.one,D.one];rfl) λF1 h1 lx H1 s1 c1=>?_;refine oF (c1.ld rfl) (K6 H1 (hc.since s1) nb (λF2 h2 w l s2 H2 hd rl=>?_) λF2 h2 er s2 H2 h0 an=>?_);rotate_left
 ·refine ec rfl (ec rfl (ec (wj _ _ _ _) ?_));rw[show(er != 0)=true from wB6.2 h0];exact gf (fX rfl (H F2 h2 false (s1.trans s2) H2 (YE λe=>let⟨l,h1,_⟩:=e.dec;an l h1)))
 have c2:=c1.since s2;have A:=s1.trans s2;refine ec rfl (ec rfl (ec (rfl) (gf (fN (by simp) ?_))));have ll:=hd.zcR;have M:=he.since A;have no:∀{F9 B},Sn F2 h2 F9 B->ej F9 B cs->¬Vw bs ex en->Q (.bool false) B:=λN O D=>H _ _ false (A.trans N) O (YE D);refine wY (λk s h'=>∃i,s=[.ptr lx 0,w,.I (i:Nat)]/\i+k=l.length/\h' = h2/\∀j x,j<i->l[j]? =some x->Tb ex.length x) ?_ (k:=l.length) ⟨0,rfl,by omega,rfl,by omega⟩;rintro k _ _ _ h3 ⟨i,⟨⟩,hk,rfl,hr⟩;unfold oY;refine ec rl.len ?_;by_cases hi:i<l.length
 ·have hx:=hN hi
  let⟨l1,o1,ws,_,i1,i2,P,i4⟩:=rl.ix hi .i64
  generalize l[i]=x at*;have P:=P;subst P;have l0:=i4 0 _ rfl;have l4:=i4 4 _ rfl;have l3:eD (.ptr lx (0+3)) h3=some we:=c2.ld rfl;have i1:gQ 5 w (.I i)=some (.ptr l1 o1):=i1;refine gJ (ec i1 (oF l0 (ec (hZ _ _ _ _) ?_)));simp only[fx,fe,i1,l0,l4,l3,M.len,hZ,jt,jB,jU,gz];have aa:(((((x.op:Nat):Int) == 25 ||((x.op:Nat):Int) == 26) ||((x.op:Nat):Int) == 27)&&decide (((ex.length:Nat):Int)<=x.n))=true↔¬Tb ex.length x:=by
   unfold Tb;simp[xB,Jz,Gi,xX];omega
  refine gf (je (λe=>no (.refl _ _) H2 λR=>?_) λe=>?_)
  ·let⟨s,d1,d2⟩:=R.dec
   rw[<-hd.uniq d1]at d2;exact aa.1 e (d2 x (Ap hx))
  ·exact fT ⟨k-1,by omega,i+1,rfl,by omega,rfl,CY hx (Classical.byContradiction λD=>e (aa.2 D)) hr⟩
 refine iY ?_;have ao:=Ml (by omega) hr
 let J1:Nat->LP:=λk s h'=>∃F' i,s=[.ptr lx 0,.I (i:Nat)]/\i+k=ex.length/\Sn F2 h3 F' h'/\ej F' h' cs/\∀j x,j<i->ex[j]? =some x->Y6 x
 refine xh J1 ?_ (k:=ex.length) (⟨F2,0,rfl,by omega,.refl _ _,H2,by omega⟩);intro k1 _ _ h5 aq;obtain⟨F5,q,⟨⟩,aH,s5,H5,ab⟩:=aq;unfold oU;have c5:=c2.since s5;have l3:eD (.ptr lx (0+3)) h5=some we:=c5.ld rfl;refine oF l3 (ec (M.since s5).len ?_);by_cases hq:q<ex.length
 ·have hx:=hN hq
  let⟨l1,o1,ws,_,i1,_,⟨fv,P,rf⟩,i4⟩:=(M.since s5).ix hq .i64
  generalize ex[q]=x at*;subst P;have l0:=i4 0 _ rfl;refine gJ (oF l3 (ec i1 (oF l0 (ec rf.len (ec (gX _ _ _ _) ?_)))));simp only[fe,rf.len,iT,jB,gz];refine gf (je (λe=>no s5 H5 λR=>?_) λe=>?_)
  ·have:=R.ex x (Ap hx);unfold Y6 at this;simp[Jz,xX]at e;omega
  have ac:1<=x.iG.length/\x.iG.length<=30:=by
   simp[Jz,xX]at e;omega
  obtain⟨J3,S⟩:∃J3,J3=λk s h'=>∃F' i,s=[.ptr lx 0,.I q,fv,.I (i:Nat)]/\i+k=x.iG.length/\Sn F5 h5 F' h'/\ej F' h' cs/\∀j f,j<i->x.iG[j]? =some f->ze6 f:=⟨_,rfl⟩
  refine xd J3 ?_ (k:=x.iG.length) (by rw[S];exact⟨F5,0,rfl,by omega,.refl _ _,H5,by omega⟩);intro k2 _ _ _ _ a C;rw[S]at C;obtain⟨G,r,⟨⟩,ar,v,T,d⟩:=C;unfold oS;have ad:=rf.since v;have ae:=s5.trans v;refine ec ad.len ?_;by_cases hrl:r<x.iG.length
  ·have hy:=hN hrl
   let⟨l2,o2,ws,f2,j1,_,⟨la,sa,P,ra,rb⟩,j4⟩:=ad.ix hrl .i64
   generalize x.iG[r]=y at*;subst P;have j1:gQ 4 fv (.I r)=some (.ptr l2 o2):=j1;have m2:=j4 2 _ rfl;have m3:=j4 3 _ rfl;have ag:∀{F9 B},Sn G a F9 B->ej F9 B cs->¬ze6 y->Q (.bool false) B:=λN O D=>no (ae.trans N) O λR=>D ((R.ex x (Ap hx)).2.2 y (Ap hy));refine gJ (ec j1 (oF m2 (ec ra.len (ec (iT _ _ _ _) ?_))));simp only[fx,fe,j1,m3,rb.len,iT,jB,gz];refine gf (je (λe=>ag (.refl _ _) T λhf=>?_) λe=>?_)
   ·have h1:=hf.1;have h2:=hf.2.1;simp[Jz,xX]at e;omega
   have ah:y.locals.length<=40/\y.stack.length<=60:=by
    simp[Jz,xX]at e;omega
   rw[Ej,gU]
   let⟨H8,s8⟩:=T.SM (E:=WT) (xs:=[]) (ws:=[]) xJ rfl trivial rfl
   have g8:=eQ a (.cells xJ 2 true false []);have k8:∀{o:Nat} {u:V},eD (.ptr l2 o) a=some u->eD (.ptr l2 o) (a.new (.cells xJ 2 true false []))=some u:=λh=>gS h (eE _ (T.fl _ f2));have H8:ej G (a.new (.cells xJ 2 true false [])) (fu WT xJ [] (.slice a.next 0 0)::cs):=H8;have s8:Sn G a G (a.new (.cells xJ 2 true false [])):=s8;have au:=ra.since s8;have aw:=rb.since s8
   first|refine ec j1 (oF (k8 m2) (ec (k8 m3) ⟨⟨g8,bq⟩,?_⟩))|refine ec (k8 m2) (ec (k8 m3) ⟨⟨g8,bq⟩,?_⟩)
   have ax:=k8 m3;generalize a.new (.cells xJ 2 true false [])=h8 at*;generalize V.slice a.next 0 0=w8 at*
   let⟨w9,B,e9,n9,O,N⟩:=H8.V2 0 rfl (jh:=16) au (by decide) (by decide) (by simp;omega)
   rw[show fg xJ 2 16 w8 la h8=_ from e9,ef];have O:=O
   let⟨ai,aI,ay,az,aA,aB⟩:=O.V2 0 rfl (jh:=16) (aw.since N) (by decide) (by decide) (by simp;omega)
   refine⟨n9,gS ax (N.fm _ f2),?_⟩;rw[show fg xJ 2 16 w9 sa B=_ from ay,ef]
   let⟨U,aC,aj⟩:=aA.jG 0 rfl
   have U:=U.tail;rw[QX]at aj;have ak:=((s8.trans N).trans aB).trans aC;refine⟨az,?_⟩;obtain⟨J4,W⟩:∃J4,J4=λk s h'=>∃F' i,s=[.ptr lx 0,.I q,fv,.I r,ai,.I (i:Nat)]/\i+k=(y.locals++y.stack).length/\Sn G a F' h'/\ej F' h' cs/\iD WT F' h' (y.locals++y.stack) ai/\∀j z,j<i->(y.locals++y.stack)[j]? =some z->yP z false:=⟨_,rfl⟩
   refine wZ J4 ?_ (k:=(y.locals++y.stack).length) (by rw[W];exact⟨_,0,rfl,by omega,ak,U,aj,by omega⟩);intro k4 _ _ _ _ _ _ aJ I;rw[W]at I;obtain⟨aD,t,⟨⟩,aK,g,al,X,J⟩:=I;unfold oZ;refine ec X.len ?_;by_cases ht:t<(y.locals++y.stack).length
   ·have K:=hN ht;have aE:=AQ ht
    let⟨l5,o5,ws,_,t1,t2,Y,_⟩:=X.ix ht .i64
    generalize (y.locals++y.stack)[t]=z at*;have Y:=Y;subst Y;refine gJ (ec t1 (ec t2 (Yq al λZ aF b c m hb=>?_)));refine qS ?_;have Ma:(y.locals++y.stack).length<=100:=by rw[nB];omega
    by_cases hlz:yP z false
    ·refine fX (hb.2 hlz) (fT ⟨k4-1,by omega,?_⟩);rw[W];exact⟨Z,t+1,rfl,by omega,g.trans c,m,X.since c,CY K hlz J⟩
    ·refine fN (λe=>hlz (hb.1 e)) (ag (g.trans c) m λhf=>hlz ?_);rcases vU.1 aE with hm|hm
     ·exact hf.2.2.1 z hm
     ·exact hf.2.2.2 z hm
   ·refine iY (fT ⟨k2-1,by omega,?_⟩);rw[S];have L:=Ml (n:=t) (by omega) J;exact⟨aD,r+1,rfl,by omega,v.trans g,al,CY hy ⟨ah.1,ah.2,λz K=>L z (Xy _ K),λz K=>L z (wBO _ K)⟩ d⟩
  ·refine iY (fT ⟨k1-1,by omega,?_⟩);exact⟨G,q+1,rfl,by omega,ae,T,CY hx ⟨ac.1,ac.2,Ml (n:=r) (by omega) d⟩ ab⟩
 refine iY ?_;have aG:=Ml (n:=q) (by omega) ab;have am:=D.since A
 let J2:Nat->LP:=λk s h'=>∃F' i,s=[.ptr lx 0,.I (i:Nat)]/\i+k=en.length/\Sn F2 h3 F' h'/\ej F' h' cs/\∀j x,j<i->en[j]? =some x->yP x true
 refine xg J2 ?_ (k:=en.length) (⟨F5,0,rfl,by omega,s5,H5,by omega⟩);intro k2 _ _ a C;obtain⟨G,r,⟨⟩,ar,v,T,d⟩:=C;unfold oO;have l4:eD (.ptr lx (0+4)) a=some wn:=(c2.since v).ld rfl;refine oF l4 (ec (am.since v).len ?_);by_cases hrl:r<en.length
 ·have K:=hN hrl
  let⟨l5,o5,ws,_,t1,t2,Y,_⟩:=(am.since v).ix hrl .i64
  generalize en[r]=z at*;have Y:=Y;subst Y;refine gJ (oF l4 (ec t1 (ec t2 (Yq T λZ aF b c m hb=>?_))));refine qS ?_;by_cases hlz:yP z true
  ·refine fX (hb.2 hlz) (fT ⟨k2-1,by omega,?_⟩);exact⟨Z,r+1,rfl,by omega,v.trans c,m,CY K hlz d⟩
  ·exact fN (λe=>hlz (hb.1 e)) (no (v.trans c) m λR=>hlz (R.en z (Ap K)))
 ·exact iY (H G a true (A.trans v) T (tru ⟨⟨l,hd,ao⟩,Ml (n:=r) (by omega) d,aG⟩))
def CQ:List Int:=List.replicate 416 0
theorem yo.zero(hp:List Int):yo ⟨CQ,hp,0,0,0⟩:=⟨by unfold CQ;exact wBF,λk a=>by
 unfold rd CQ;rw[Dz,List.getElem?_replicate,if_pos a];exact ti⟩
theorem Yp{hp:List Int}:∀{en:List Nl}{ls mem:List Int},yo ⟨mem,hp,0,0,0⟩->(∀e∈en,yP e true)->(∀w∈ls,mR .u64 w)->yo ⟨zh en ls mem,hp,0,0,0⟩
 |[],_,_,M,_,_=>M
 |_::_,[],_,M,_,_=>M
 | e ::en,w::ls,mem,M,he,hw=>by
   refine Yp (mem:=CK mem e w) ?_ (λx b=>he x (by simp[b])) λx b=>hw x (by simp[b]);have a:=he e (by simp);unfold yP at a;unfold CK Mz;split
   ·rename_i q hq
    refine M.put ?_ (hw w (by simp));split at hq
    ·rename_i e1
     rw[if_pos e1]at a;cases hq;omega
    ·rename_i e1
     rw[if_neg e1]at a;split at hq
     ·rename_i e2
      rw[if_pos e2]at a;cases hq;omega
     ·cases hq
   ·exact M
theorem zaW(t:List V)(a:gj t=true):∀l:List Int,gj (l.map (V.int .u64)++t)=true
 |[]=>a
 |x::l=>by rw[ZO,wBT,fh,zaW t a l];rfl
theorem zdM(s:Ms)(st ex:Int):gj (Qe s st ex)=true:=zaW _ rfl _
theorem Ry:∀en ls mem,zh en (ls.take en.length) mem=zh en ls mem
 |[],_,_=>rfl
 |_::_,[],_=>rfl
 |_::en,_::ls,_=>Ry en ls _
theorem zbz{f p:Int}{bs:List Nat}{v:List Nx}{en:List Nl}{wc we wn T:V}{ls:List Int}(H0:ej F h cs)(hc:iD eY F h bs wc)(U:iD eEx F h v we)(hn:iD WT F h en wn)(nb:bs.length<=2000000)(ne:v.length<100000000)(nn:en.length<100000000)
  (ok:Vw bs v en) (hl:iD (eI .u64) F h ls T) (ah:en.length<=ls.length) (Ma:ls.length<100000000)
  (H:∀F' h' lm,Sn F h F' h'->ej F' h' (fi lm Qz (Qe ⟨zh en ls CQ,[],0,0,0⟩ 0 0)::cs)->yo ⟨zh en ls CQ,[],0,0,0⟩->Q (.tuple [.ptr lm 0,.bool true]) h') :
  cP CS qz [.agg (ntC f p wc we wn),.agg [.I f,.I p,T,.ed]] h Q:=by
 refine EE ?_;refine yq H0 (by simp only[fh,hc.one,U.one,hn.one];rfl) λF1 h1 B H1 s1 c1=>?_;refine yq H1 (by simp only[fh,hl.one];rfl) λF2 h2 x H2 s2 c2=>?_;have m:=s1.trans s2;refine ec ((c1.since s2).xk rfl) ?_;refine OT H2 (hc.since m) (U.since m) (hn.since m) nb ne nn λF3 t b s3 H3 hb=>?_;obtain rfl:b=true:=hb.2 ok;have y:=m.trans s3;have r:=(c1.since s2).since s3;have j:=c2.since s3;have a0:eD (.ptr B (0+0)) t=some (.I f):=r.ld rfl;have a1:eD (.ptr B (0+1)) t=some (.I p):=r.ld rfl;have a4:eD (.ptr B (0+4)) t=some wn:=r.ld rfl;have b0:eD (.ptr x (0+0)) t=some (.I f):=j.ld rfl;have b1:eD (.ptr x (0+1)) t=some (.I p):=j.ld rfl;have b2:eD (.ptr x (0+2)) t=some T:=j.ld rfl;have b3:eD (.ptr x (0+3)) t=some .ed:=j.ld rfl;have z:=hl.since y;have E:=hn.since y;refine ec (rfl) ?_;refine ec (by simp only[fx,fe,a0,b0];show nr _ (some (.bool (f != f)))=_;rw[bne_self_eq_false];rfl) ?_;refine ec (by simp only[fx,fe,a1,b1];show nr _ (some (.bool (p != p)))=_;rw[bne_self_eq_false];rfl) ?_;refine ec (a:= .bool false) (by simp only[fx,fe,b3];rfl) ?_;refine ec (a:= .bool false) (by simp only[fx,fe,b2,a4,z.len,E.len,gX,jB];rw[JH (by omega)];rfl) ?_;refine gf (fN (by simp) ?_);have hb:∀{X:Option V} {K:V->Prop},X=some (V.agg (Qe ⟨CQ,[],0,0,0⟩ 0 0))->K (V.agg (Qe ⟨CQ,[],0,0,0⟩ 0 0))->oP X K:=λh1 h2=>ec h1 h2;refine hb (by kernel_rfl) ?_;refine pz H3 (zdM _ _ _) λh4 H4 s4=>?_;generalize t.next=lm at*;have aa:∀k w,ls[k]? =some w->mR .u64 w:=λk w W=>by
  let⟨_,_,_,_,_,g⟩:=z.word W .i64
  exact g
 have ab:∀w∈ls,mR .u64 w:=λw hm=>by
  let⟨k,W⟩:=mG.1 hm
  exact aa k w W
 have G:∀i,yo ⟨zh (en.take i) (ls.take i) CQ,[],0,0,0⟩:=λi=>Yp (yo.zero []) (λe U=>ok.en e ((List.take_sublist _ _).subset U)) λw hw=>ab w ((List.take_sublist _ _).subset hw)
 let J:Nat->LP:=λk l' h'=>∃F' i,l' = [.ptr B 0,.ptr x 0,.ptr lm 0,.I (i:Nat)]/\i+k=en.length/\Sn F3 h4 F' h'/\ej F' h' (fi lm Qz (Qe ⟨zh (en.take i) (ls.take i) CQ,[],0,0,0⟩ 0 0)::cs)
 refine BD J ?_ (k:=en.length) (⟨F3,0,rfl,by omega,.refl _ _,H4⟩);intro k _ _ _ _ C ac;obtain⟨F5,i,⟨⟩,W,s5,I⟩:=ac;unfold tM;have l:=s4.trans s5;have s:eD (.ptr B (0+4)) C=some wn:=(r.since l).ld rfl;have L:eD (.ptr x (0+2)) C=some T:=(j.since l).ld rfl;have M:=E.since l;have ad:=z.since l;refine oF s (ec M.len ?_);by_cases hi:i<en.length;rotate_left
 ·refine iY ?_;obtain rfl:i=en.length:=by omega
  have N:=G en.length;rw[QQ,Ry]at I N;exact H F5 C lm (y.trans l) I N
 have c:yP en[i] true:=ok.en _ (AQ hi);have O:i<ls.length:=by omega
 have hw:=hN O;have ae:=JE hi;have ag:=JE O
 let⟨p1,o1,ws,_,i1,_,e3,i4⟩:=M.ix hi .i64
 let⟨p2,o2,_,j1,j2,_⟩:=ad.word hw .i64
 generalize en[i]=e at*;generalize ls[i]=u at*;have e3:ws=KL e:=e3;subst e3;have g0:eD (.ptr p1 (o1+0)) C=some (.I e.kind):=i4 0 _ rfl;have Y:eD (.ptr p1 (o1+1)) C=some (.I e.n):=i4 1 _ rfl;have N:=G i;have hlen:(en.take i).length=(ls.take i).length:=by simp;omega
 have d:∀{Z D},Sn F5 C Z D->ej Z D (fi lm Qz (Qe ⟨CK (zh (en.take i) (ls.take i) CQ) e u,[],0,0,0⟩ 0 0)::cs)->jy Q (NG J k) [.ptr B 0,.ptr x 0,.ptr lm 0,.I i] D:=λ{Z D} P R=>by
  refine AZ ?_;unfold sL;refine fT ⟨k-1,by omega,?_⟩;exact⟨Z,i+1,rfl,by omega,s5.trans P,by rw[ae,ag,Q7 hlen];exact R⟩
 unfold yP at c;refine gJ (oF s (ec i1 (oF g0 (fD ?_))));by_cases A:e.kind=1
 ·rw [if_pos A]at c;obtain⟨q,hq⟩:∃q:Nat,e.n=q:=⟨e.n.toNat,by omega⟩
  have e1:CK (zh (en.take i) (ls.take i) CQ) e u=(zh (en.take i) (ls.take i) CQ).set q u:=by
   unfold CK Mz;rw[if_pos A,hq];rfl
  rw[e1]at d;rw[hq]at Y
  let⟨D,e6,n6,R,P⟩:=zeH I N (i:=0) rfl (k:=q) (o:=0+0+q*1) (by omega) (by omega) u
  refine fX A (oF s (ec i1 (oF Y (oF L (ec j1 (ec j2 (ec (eC _ _) (ec (fx _ _ _) (ec (pH (by omega)) ?_)))))))));rw[e6,ef];exact⟨n6,d P R⟩
 rw[if_neg A]at c;refine fN A (fD ?_);by_cases S:e.kind=2
 ·rw [if_pos S]at c;obtain⟨q,hq⟩:∃q:Nat,e.n=q:=⟨e.n.toNat,by omega⟩
  have e1:CK (zh (en.take i) (ls.take i) CQ) e u=(zh (en.take i) (ls.take i) CQ).set (16+q) u:=by
   unfold CK Mz;rw[if_neg A,if_pos S,hq];rfl
  rw[e1]at d;rw[hq]at Y
  let⟨D,e6,n6,R,P⟩:=zeH I N (i:=0) rfl (k:=16+q) (o:=0+16+q*1) (by omega) (by omega) u
  refine fX S (oF s (ec i1 (oF Y (oF L (ec j1 (ec j2 (ec (eC _ _) (ec (fx _ _ _) (ec (W0 (by omega)) ?_)))))))));rw[e6,ef];exact⟨n6,d P R⟩
 have e1:CK (zh (en.take i) (ls.take i) CQ) e u=zh (en.take i) (ls.take i) CQ:=by
  unfold CK Mz;rw[if_neg A,if_neg S]
 rw[e1]at d;exact fN S (d (.refl _ _) I)
variable{u:U}{of:List Int}{fr:List Fw}{hp:List Int}{st:Nat}{jh:Int}
theorem kJ.zero{m:Ms}(L:kJ fk l u of 0 m fr hp st jh):∃a x e X,l[m.pc]? =some x/\iB fk x m=(a,some ((e:Nat):Int))/\(qf u of)[e]? =some X/\X.state=st/\X.val=jh/\X.iG.map (zaj a.mem)=fr/\a.heap=hp/\a.steps=m.steps+1:=by
 let⟨m1,a,x,e,X,G,b,c,d,f,g,h,i,j⟩:=L
 cases G;exact⟨a,x,e,X,b,c,d,f,g,h,i,j⟩
theorem kJ.succ{j:Nat}{m:Ms}(L:kJ fk l u of (j+1) m fr hp st jh):∃t x,l[m.pc]? =some x/\iB fk x m=(t,none)/\t.steps=m.steps+1/\kJ fk l u of j t fr hp st jh:=by
 let⟨m1,a,x,e,X,G,b,c,d,f,h,i,k,o⟩:=L
 cases G with
 | cons n hs g=>
   rename_i y t;have e1:t.steps=m.steps+1:=by
     have:=HI fk y m;rw[hs]at this;exact this
   exact⟨t,y,n,hs,e1,m1,a,x,e,X,g,b,c,d,f,h,i,k,by omega⟩
theorem Ny{x:Ni}{m:Ms}(o:0<=fk)(b:(m.polls:Int)<=fk):((iB fk x m).1.polls:Int)<=fk:=by
 unfold iB;by_cases h0:x.op=1
 ·rw[if_pos h0];exact b
 rw[if_neg h0];by_cases d:x.op=2
 ·rw[if_pos d];exact b
 rw[if_neg d];by_cases e:x.op=3
 ·rw[if_pos e];exact b
 rw[if_neg e];by_cases f:x.op=4
 ·rw[if_pos f];exact b
 rw[if_neg f];by_cases g:x.op<=20
 ·rw[if_pos g];exact b
 rw[if_neg g];by_cases i:x.op=21
 ·rw[if_pos i];exact b
 rw[if_neg i];by_cases j:x.op=22
 ·rw[if_pos j];exact b
 rw[if_neg j];by_cases k:x.op=23
 ·rw[if_pos k];exact b
 rw[if_neg k];by_cases l:x.op=24
 ·rw[if_pos l];by_cases h:rd m x.a=0
  ·rw[if_pos h];exact b
  ·rw[if_neg h];exact b
 rw[if_neg l];by_cases n:x.op=25
 ·rw[if_pos n];exact b
 rw[if_neg n];by_cases c:x.op=26
 ·rw[if_pos c];by_cases h:0<=fk/\(m.polls:Int)=fk
  ·rw[if_pos h];exact b
  ·rw[if_neg h];show((m.polls+1:Nat):Int)<=fk;omega
 rw[if_neg c];exact b
theorem W2{x:Ni}{m t:Ms}{o:Option Int}(b:0<=fk)(h:iB fk x m=(t,o)):iB (fk+1) x m=(t,o)\/(x.op=26/\(m.polls:Int)=fk/\o≠none)\/(x.op=26/\(m.polls:Int)=fk+1):=by
 by_cases a:x.op=26
 ·by_cases hp:(m.polls:Int)=fk
  ·refine .inr (.inl ⟨a,hp,?_⟩);unfold iB at h;rw[a]at h;simp[ Nat.reduceLeDiff]at h;rw[if_pos ⟨b,hp⟩]at h;cases h;simp
  ·by_cases hp2:(m.polls:Int)=fk+1
   ·exact .inr (.inr ⟨a,hp2⟩)
   ·left;rw[<-h];unfold iB;rw[a];simp[ Nat.reduceLeDiff];rw[if_neg λh=>hp2 h.2,if_neg λh=>hp h.2]
 ·left;rw[<-h];unfold iB;simp[if_neg a]
variable{l7:Nat}{x4 gI iQ ye:V}
theorem zcZ{a:V}{m n:Int}(b:a.one=true):fq [V.I 0,V.I 0,V.ed,V.ed] [(0,1),(1,1),(2,1),(3,1)] [(0,V.I m),(1,V.I n),(2,a)]=some (.agg [.I m,.I n,a,.ed]):=by
 unfold fq;simp[xz,th b];rfl
structure RdW (h:Hp) (xs:List Int) (v:V):Prop where
 len:fM v=some (.I xs.length)
 at_:∀k x,xs[k]? =some x->∃l o,gQ 1 v (.I (k:Nat))=some (.ptr l o)/\eD (.ptr l o) h=some (.int .u64 x)
variable{w:U}{vv vb vs wv wb ws zi:V}{locals xs:List Int}{fuel:Nat}
variable{lv:V}{ls:List Int}
def Wb(hp:List Int)(t n:Nat):List Int×Int×Bool:=
 if 100-((hp.length:Nat):Int)<((n+1:Nat):Int) then(hp,0,false)
 else(hp++[qQ (IntKind.wrap .u64 (qQ (t:Nat)*2 ^ min 32 IntKind.u64.bits)+qQ (n:Nat))]++List.replicate n 0,(hp.length:Nat),true)
def zcf(hp:List Int)(r:Int)(k:Nat)(x:Int):List Int:=
 if r=0 then hp else if mN hp r % 4294967296<=((k:Nat):Int) then hp else Ea hp (qQ (qQ (r+1)+qQ (k:Nat))) x
def zb0(hp:List Int)(r x:Int):Nat->List Int
 |0=>hp
 |j+1=>zcf (zb0 hp r x j) r j (x.fdiv (2 ^ min (j*9) IntKind.u64.bits))
def zf3(hp:List Int)(x:Int):List Int:=
 let a:=Wb hp (5+(x.tmod 3).toNat) (x.tmod 5).toNat
 zb0 a.1 a.2.1 x (if a.2.2=true then(x.tmod 5).toNat else 0)
def Ts(ls:List Int):Nat->List Int
 |0=>[0]
 | i+1=>match ls[i]? with
   |some x=>zf3 (Ts ls i) x
   |none=>Ts ls i
theorem We(b:ej F h cs)(H:∀h' v lx,Sn F h F h'->ej F h' (fi lx 115 [.I 100,v]::fu (eI .u64) DE [0] v::cs)->Q (.ptr lx 0) h'):cP CS py [.I 100] h Q:=by
 refine Ey ?_;rw[yC,fH]
 let⟨a,s1⟩:=b.SM (E:=eI .u64) (xs:=[0]) DE rfl ⟨_,[],rfl,⟨rfl,ti⟩,trivial⟩ rfl
 have a:=a;have s1:=s1;refine ec (rfl) ?_;refine pz a rfl λc d e=>H c _ _ (s1.trans e) d
theorem zbc(f:ej F h (fi lh Th [.I 100,qU]::fu (eI .u64) DE hp qU::ds))(hl:hp.length<=100){t n:Nat}(N:t<=7)(O:n<=4)
  (H:∀h' d b r ok,Sn F h F h'->ej F h' (fi lh Th [.I 100,d]::fu (eI .u64) DE b d::ds)->b.length<=100->mR .u64 r->Wb hp t n=(b,r,ok)->Q (.tuple [.int .u64 r,.bool ok]) h') :
  cP CS nj [.ptr lh 0,.I t,.I n] h Q:=by
 refine AH ?_;have C:eD (.ptr lh (0+0)) h=some (.I 100):=f.ld 0 rfl rfl;have p:eD (.ptr lh (0+1)) h=some qU:=f.ld 0 rfl rfl;have cl:=f.len 1 rfl;have g:jo .i64 (100-((hp.length:Nat):Int))=100-((hp.length:Nat):Int):=gK (by simp[mR];omega);refine ec (gX ..) ?_;rw[JH (by omega)];refine Tt (by rw[fe,iT,JH (by omega)]) (Tt (by rw[fe,gX,JH (by omega)]) (Tt (by rw[fe,iT,JH (by omega)]) ?_));refine ec (a:= .bool (decide (100-((hp.length:Nat):Int)<((n+1:Nat):Int)))) ?_ (gf ?_)
 ·simp[qN,fe,eC,fx,C,p,cl,iU,zfy (n:=n) (by omega),iI,g,iT]
 by_cases c:100-((hp.length:Nat):Int)<((n+1:Nat):Int)
 ·exact fX (No c) (H h qU hp 0 false (Sn.refl _ _) f hl ti (if_pos c))
 refine fN (by rw[xX];exact c) ?_;have j:mR .u64 ((hp.length:Nat):Int):=by simp[mR];omega
 refine oN p (ec cl (ec (by rw[gB,iV,HO j]) (oN p (ec (by rw[gB,iV]) (ec (rfl) (ec (by rw[gB,iV]) (ec (by rw[iU,iV]) ?_)))))));generalize m:qQ (IntKind.wrap .u64 (qQ (t:Nat)*2 ^ min 32 IntKind.u64.bits)+qQ (n:Nat))=y;have q:=m▸xV _;rw[yC,fH];obtain⟨D,P,e1,_,s,s1⟩:=f.tz 1 rfl (jh:=8) ⟨rfl,q⟩ (by decide) (by decide) (by omega);rw[show fg 63 1 8 qU (.slice h.next 0 1) (h.new (.cells 63 1 true false [.int .u64 y]))=_ from e1,ef];simp[CW,Mc]at s
 let⟨R,e2,_,z,E⟩:=s.st 0 (o:=0+1) rfl (by simp) (s.one 1 rfl)
 refine ec (eC _ _) (ec pf ?_);rw[e2,ef];simp[CW,Mc]at z
 obtain ⟨J,u⟩:∃J:Nat->LP,J=λk l h'=>∃(i:Nat) (d:V) (b:List Int),l=[.ptr lh 0,.I n,.int .u64 ((hp.length:Nat):Int),.I i]/\i+k=n/\Sn F h F h'/\b=hp++[y]++List.replicate i 0/\
   ej F h' (fi lh Th [.I 100,d]::fu (eI .u64) DE b d::ds):=⟨_,rfl⟩
 refine yr J (λk S T U W v hi=>?_) (k:=n) ?_;rotate_left
 ·rw[u];exact⟨0,D,_,rfl,by omega,s1.trans E,by simp,z⟩
 rw[u]at hi;obtain⟨i,d,b,⟨⟩,X,A,e,w⟩:=hi;have G:b.length=hp.length+1+i:=by simp[e];omega
 unfold qh;by_cases hi:i<n;rotate_left
 ·exact iY (H v d b _ true A w (by omega) j (by unfold Wb;rw[if_neg c,m,e,show i=n by omega]))
 refine gJ (oN (w.ld 0 rfl rfl) ?_);rw[yC,fH];obtain⟨I,Y,K,_,x,s4⟩:=w.tz 1 rfl (jh:=8) ⟨rfl,ti⟩ (by decide) (by decide) (by omega);rw[show fg 63 1 8 d (.slice v.next 0 1) (v.new (.cells 63 1 true false [.int .u64 0]))=_ from K,ef];simp[CW,Mc]at x
 let⟨Z,L,_,B,M⟩:=x.st 0 (o:=0+1) rfl (by simp) (x.one 1 rfl)
 refine ec (eC _ _) (ec pf ?_);rw[L,ef];simp[CW,Mc]at B;refine fT ⟨k-1,by omega,?_⟩;rw[u];exact⟨i+1,I,_,rfl,by omega,(A.trans s4).trans M,by rw[e,List.replicate_succ',<-Bo],B⟩
theorem zev(b:ej F h (fi lh Th [.I 100,qU]::fu (eI .u64) DE hp qU::ds))(hl:hp.length<=100){r x:Int}{k:Nat}(d:mR .u64 r)(e:mR .u64 x)(l:k<=1000)
  (H:∀h' a ok,Sn F h F h'->ej F h' (fi lh Th [.I 100,qU]::fu (eI .u64) DE a qU::ds)->a.length<=100->a=zcf hp r k x->Q (.bool ok) h') :
  cP CS oA [.ptr lh 0,.int .u64 r,.I k,.int .u64 x] h Q:=by
 refine Cf ?_;refine ec (hZ ..) ?_;by_cases z:r=0
 ·rw[show(r == 0)=true from Gi.2 z];refine ec (rfl) (BP (BP (BP (Z1 (ec (rfl) (gf (fX rfl (H h hp false (Sn.refl _ _) b hl (if_pos z).symm))))))))
 rw[show(r == 0)=false from Yz.2 z];refine Tt (by rw[fe,gX,JH (by omega)]) (gR (ec rfl (gR (ec rfl (gR (ec rfl (xu (Wm b (i:=0) (j:=1) rfl rfl (by omega) d λ_=>?_))))))));refine ec (by rw[qN,jt]) (gf ?_);by_cases c:mN hp r % 4294967296<=((k:Nat):Int)
 ·exact fX (No c) (H h hp false (Sn.refl _ _) b hl (by unfold zcf;rw[if_neg z,if_pos c]))
 refine fN (by rw[xX];exact c) (ec (by rw[iU,iV]) (ec (by rw[gB,iV]) (ec (by rw[iU,iV]) (OG b (i:=0) (j:=1) rfl rfl (by omega) (xV _) e λf ok s1 g=>?_))));exact H f _ ok s1 g (by rw[GZ];exact hl) (by unfold zcf;rw[if_neg z,if_neg c])
theorem zeh{x:Int}(a:mR .u64 x)(m:Nat):mR .u64 (x.fdiv (2 ^ m)):=by
 have b:(0:Int)<2 ^ m:=Int.pow_pos (by decide);rw[Int.fdiv_eq_ediv_of_nonneg _ (Int.le_of_lt b)];exact⟨Int.ediv_nonneg a.1 (Int.le_of_lt b),Int.le_trans (Int.ediv_le_self _ a.1) a.2⟩
theorem Yh{ls:List Int}{i:Nat}:∀{k:Nat},(k=0\/ls.length<=i)->Ts ls i=Ts ls (i+k)
 |0,_=>rfl
 | k+1,h=>by
   rw[Yh (k:=k) (by omega),<-VB];have e:ls[i+k]? =none:=ZR (by omega);simp only[Ts,e]
theorem Qa(L:ej F h cs)(e:iD (eI .u64) F h ls lv)(H:∀h' lx v hp,Sn F h F h'->ej F h' (fi lx 115 [.I 100,v]::fu (eI .u64) DE hp v::cs)->hp.length<=100->hp=Ts ls 8->Q (.ptr lx 0) h') :
  cP CS mj [lv] h Q:=by
 refine CZ ?_;refine We L λh1 M lx s1 N=>?_;obtain⟨J,p⟩:∃J,J=λk l h'=>∃i v hp,l=[lv,.ptr lx 0,.I (i:Nat)]/\i+k=8/\Sn F h F h'/\hp.length<=100/\hp=Ts ls i/\ej F h' (fi lx 115 [.I 100,v]::fu (eI .u64) DE hp v::cs):=⟨_,rfl⟩
 refine AY J (λk O P x4 R hi=>?_) (k:=8) ?_;rotate_left
 ·rw[p];exact⟨0,M,[0],rfl,rfl,s1,by simp,rfl,N⟩
 rw[p]at hi;obtain⟨i,S,q,⟨⟩,T,s,f,E,G⟩:=hi;unfold te;have r2:=e.since s;refine ec r2.len (ec (gX ..) (ec (a:= .bool (decide (i<ls.length/\i<8))) ?_ (gf ?_)))
 ·by_cases c:i<ls.length
  ·rw[No (by omega),xL,fe,gX];congr 2;exact decide_eq_decide.2 (by omega)
  ·rw[JH (by omega),xF,JH λh=>c h.1]
 by_cases c:i<ls.length/\i<8;rotate_left
 ·exact fN (by rw[xX];exact c) (H R lx S q s G f (by rw[E,Yh (k:=k) (by omega),T]))
 have u:=hN c.1;generalize ls[i]=x at*
 let⟨l1,o1,_,p1,p2,p3⟩:=r2.word u .i64
 have g:=p3;have U:0<=x.tmod 5/\x.tmod 5<=4:=by rw[wBR g.1];omega
 have V:0<=x.tmod 3/\x.tmod 3<=2:=by rw[wBR g.1];omega
 let⟨n,hn⟩:=wBj U.1
 let⟨t,ht⟩:=wBj V.1
 refine fX (No c) (ec p1 (ec p2 (ec (show eh .rem 63 (.int .u64 x) (.int .u64 5)=some (.int .u64 (x.tmod 5)) from rfl) (ec (by rw[gB,hn,DD (by omega)]) (ec p1 (ec p2 (ec (show eh .rem 63 (.int .u64 x) (.int .u64 3)=some (.int .u64 (x.tmod 3)) from rfl) (ec (by rw[gB,ht,DD (by omega)]) (ec (by rw[iU,show(5:Int)+(t:Nat)=((5+t:Nat):Int) by omega,DD (by omega)]) ?_)))))))));refine zbc G f (by omega) (by omega) λh3 w m r ok W X y Y Z=>?_;refine ec (rfl) (ec (rfl) ?_);have z:=s.trans W;obtain⟨A,b⟩:∃A,A=λk l h'=>∃j hp,l=[lv,.ptr lx 0,.I i,.I n,.int .u64 r,.bool ok,.I (j:Nat)]/\j+k=n/\Sn F h F h'/\hp.length<=100/\hp=zb0 m r x j/\(ok=false->j=0)/\ej F h' (fi lx 115 [.I 100,w]::fu (eI .u64) DE hp w::cs):=⟨_,rfl⟩
 refine AB A (λk1 O P x4 x5 x6 x7 x8 h4 hi=>?_) (k:=n) ?_;rotate_left
 ·rw[b];exact⟨0,m,rfl,by omega,z,y,rfl,λ_=>rfl,X⟩
 rw [b]at hi;obtain⟨j,B,⟨⟩,aa,s4,o,I,j0,K⟩:=hi;unfold sq;have out:¬(ok=true/\j<n)->J (k-1) [lv,.ptr lx 0,.I ((i+1:Nat):Int)] h4:=λd=>by
  rw [p];refine⟨i+1,w,B,rfl,by omega,s4,o,?_,K⟩;have e1:(if ok=true then n else 0)=j:=by
   cases ok with
   |false=>rw[j0 rfl];rfl
   |true=>rw[if_pos rfl];have:¬j<n:=λh=>d ⟨rfl,h⟩;omega
  simp only[Ts,u];unfold zf3;rw[<-E,ht,hn,Int.toNat_natCast,Int.toNat_natCast,Z];simp only;rw[e1,I]
 refine ec (a:= .bool (ok&&decide (j<n))) ?_ (gf ?_)
 ·cases ok
  ·rfl
  ·rw[xL,fe,fe,gX,Bool.true_and];congr 2;exact decide_eq_decide.2 (by omega)
 by_cases d:ok=true/\j<n;rotate_left
 ·refine fN (by rw[xB,xX];exact d) (fT ⟨k-1,by omega,out d⟩)
 let⟨l2,o2,_,q1,q2,_⟩:=(e.since s4).word u .i64
 refine fX (by rw[xB,xX];exact d) (ec q1 (ec q2 (ec (by rw[Dk,show((j:Nat):Int)*9=((j*9:Nat):Int) by omega,DD (by omega)]) (ec (by rw[gB,iV,HO (by simp[mR];omega)]) (ec (rfl) ?_)))));refine zev K o Y (zeh p3 _) (by omega) λh5 C _ s5 H5 D e5=>?_;refine fT ⟨k1-1,by omega,?_⟩;rw[b];exact⟨j+1,C,rfl,by omega,s4.trans s5,D,by rw[e5,I];rfl,λh=>absurd d.1 (by simp[h]),H5⟩
theorem VO(m:ej F h cs)(b:iD (eI .u64) F h ls lv)(H:∀h' v xs,Sn F h F h'->ej F h' (fu (eI .u64) DE xs v::cs)->xs.length<=6->Q v h'):cP CS qu [lv] h Q:=by
 refine EY ?_;obtain⟨J,d⟩:∃J,J=λk l h'=>∃i v xs,l=[lv,v,.I (i:Nat)]/\i+k=6/\Sn F h F h'/\xs.length=i/\ej F h' (fu (eI .u64) DE xs v::cs):=⟨_,rfl⟩
 refine Bx J (λk s v x4 e hi=>?_) (k:=6) ?_;rotate_left
 ·rw[d];exact⟨0,.ed,[],rfl,rfl,Sn.refl _ _,rfl,m.add .nil λ_ h=>h⟩
 rw[d]at hi;obtain⟨i,_,xs,⟨⟩,t,f,g,j⟩:=hi;unfold tP;have r2:=b.since f;refine ec r2.len (ec (gX ..) (ec (a:= .bool (decide (i<ls.length/\i<6))) ?_ (gf ?_)))
 ·by_cases c:i<ls.length
  ·rw[No (by omega),xL,fe,gX];congr 2;exact decide_eq_decide.2 (by omega)
  ·rw[JH (by omega),xF,JH λh=>c h.1]
 by_cases c:i<ls.length/\i<6;rotate_left
 ·exact fN (by rw[xX];exact c) (H e v xs f j (by omega))
 have n:=hN c.1;generalize ls[i]=x at*
 let⟨u,w,_,p1,p2,p3⟩:=r2.word n .i64
 refine fX (No c) (ec p1 (ec p2 ?_));rw[yC,fH];obtain⟨o,y,p,_,q,r⟩:=j.tz 0 rfl (jh:=8) ⟨rfl,p3⟩ (by decide) (by decide) (by omega);rw[show fg 63 1 8 v (.slice e.next 0 1) (e.new (.cells 63 1 true false [.int .u64 x]))=_ from p,ef];refine fT ⟨k-1,by omega,?_⟩;rw[d];exact⟨i+1,o,_,rfl,by omega,f.trans r,by rw[nB,Tj,g],q⟩
variable{hpF:List Int}{k:Nat}
variable{In Out:Nat->Nat->Prop}{fG:Int}{wc we wn:V}
theorem zdp{v:Nat}{x:Vl}{s:Rs}{e:Ex}(h:uD u fk v x s = .inl e):e=zt u {s with steps:=s.steps+1} x.state v:=by
 unfold uD at h;split at h
 ·cases h
 split at h
 ·cases h
 split at h
 ·split at h
  ·cases h;rfl
  ·cases h
 split at h
 ·split at h
  ·cases h;rfl
  ·cases h
 ·cases h
theorem YA{fuel k:Nat}{fr:List Fw}{hq:List Int}{st:Nat}{jh:Int}:∀{r:List Nat}{s:Rs},p9 u fk fuel r s = .inl (.left k fr hq st jh)->k<=fuel
 |[],_,h=>by cases h
 | v ::r,s,h=>by
   unfold p9 at h;by_cases hf:fuel<=s.steps
   ·rw[if_pos hf]at h;cases h
   rw[if_neg hf]at h
   cases hx:u.ee[v]? with
   |none=>rw[hx]at h;cases h
   | some x=>
     rw[hx]at h;simp only at h
     cases ho:uD u fk v x s with
     | inl e=>
       rw[ho]at h;have e1:=zdp ho;rw[e1]at h;have b:=Sum.inl.inj h;injection b with a;have a:s.steps+1=k:=a
       omega
     | inr s1=>
       rw[ho]at h;exact YA h
theorem zaM{fuel k:Nat}{fr:List Fw}{hq:List Int}{st:Nat}{jh:Int}{locals:List Int}:∀{Jn:Nat}{qO:Option Nat}{b:Nat}{s:Rs},runM u locals fk fuel Jn qO b s = .left k fr hq st jh->k<=fuel
 |0,_,_,_,h=>by cases h
 | Jn+1,qO,b,s,h=>by
   unfold runM at h
   cases hB:u.blocks[b]? with
   |none=>rw[hB]at h;cases h
   | some B=>
     rw[hB]at h;simp only at h
     cases hr:p9 u fk fuel (B.ee.dropWhile (gM u)) (lW u locals qO B s)with
     | inl e=>
       rw[hr]at h;have h:e = .left k fr hq st jh:=h;rw[h]at hr
       exact YA hr
     | inr s1=>
       rw[hr]at h;simp only at h;by_cases hf:fuel<=s1.steps
       ·rw[if_pos hf]at h;cases h
       rw[if_neg hf]at h;by_cases a:B.fin=3
       ·rw[if_pos a]at h
        injection h with c;have c:s1.steps+1=k:=c;omega
       rw[if_neg a]at h
       cases ht:FV B s1 with
       |none=>rw[ht]at h;cases h
       |some t=>rw[ht]at h;exact zaM h
theorem VJ(g:Good u)(A:mK u (iy u) In Out)(p:lI u Out of fG){f:List (List Ni)}(b:zV u of u.blocks 0 0 f){l:List Ni}(i:l=f.flatten.map (patch (iJ 0 f))) {a:List Int}(hl:(pZ u of u.ee.length).length<=a.length)(q:∀k,a.getD k 0=locals.getD k 0)
  {n st:Nat} {fr:List Fw} {hq:List Int} {jh:Int} (e1:runM u locals fk fuel (fuel+1) none 0 (EH u hp) = .left n fr hq st jh):∃j,kJ fk l u of j ⟨zh (pZ u of u.ee.length) a CQ,hp,0,0,0⟩ fr hq st jh/\j<=4*n:=by
 obtain⟨B,h⟩:∃B,u.blocks[0]? =some B:=⟨_,hN (by have:=g.WI;omega)⟩
 have R:=zb8 (fk:=fk) g A p b (fuel:=fuel) (fuel+1) none 0 (EH u hp) ⟨zh (pZ u of u.ee.length) a CQ,hp,0,0,0⟩ B h (Wn g A p h (by unfold CQ;exact wBF) hl q) wBF ?_
 ·rw[<-i]at R;rw[e1]at R
  let⟨j,L,hj⟩:=R
  exact⟨j,L,by omega⟩
 ·obtain ⟨c,m,r,s,o,d,rfl⟩:=b.get h;have e:r=[]:=by
   unfold KJ at o;rw[if_neg (by rw[g.fj 0 B h,g.S3];simp)]at o;exact o
  subst e;rw[ Gg]at d;have hs:=Q9 m (patch (iJ 0 f));rw[QX,UB,xK (OR g _ _)]at hs;exact⟨s,d,hs⟩
theorem Pm{fr b:List Fw} {hp c:List Int} {st d:Nat} {jh f:Int}(g:0<=fk):∀{j a:Nat}{m:Ms},(m.polls:Int)<=fk->kJ fk l u of j m fr hp st jh->kJ (fk+1) l u of a m b c d f->j<=a
 |0,_,_,_,_,_=>L9 _
 | j + 1,a,m,hm,L,L'=>by
   let⟨t,x,hx,hs,_,L2⟩:=L.succ
   have hp:=Ny (x:=x) g hm;rw[hs]at hp;rcases W2 g hs with e|⟨_,_,e⟩|⟨_,e⟩
   ·cases a with
    | zero=>
      let⟨h,y,e',X,hy,hs',_⟩:=L'.zero
      rw[hx]at hy;cases hy;rw[e]at hs'
      cases hs'
    | succ a=>
      let⟨t',y,hy,hs',_,L3⟩:=L'.succ
      rw[hx]at hy;cases hy;rw[e]at hs';cases hs';exact Nat.succ_le_succ (Pm g hp L2 L3)
   ·exact absurd rfl e
   ·omega
variable{gL:LP}
theorem zcy{j:Nat}{m:Ms}{last:Int}{lm lh Th:Nat}{rm qU w C D d iQ f:V}(L:kJ fk l u of j m fr hpF st jh)(hm:m.steps=0)(W:0<=fk)(Y:fk<1000)(Z:m.polls=0)(hj:j<50000)(aa:last<=(j:Int)+1)(M:yo m)
  (H0:ej F h (mcs m 0 0 lm lh Th rm qU ds)) (hl:iD eIn F h l w) (Ma:l.length<1000000) (ok:∀x∈l,Bw l.length x) (hh:m.heap.length<1000000)
  (HK:∀F' h',Sn F h F' h'->ej F' h' ds->gL [C,D,d,iQ,w,f,.I ((j+1:Nat):Int),.I (fk+1)] h') :
  lJ Q gL [C,D,d,iQ,w,f,.I last,.I fk,.ptr lh 0,.ptr lm 0] h:=by
 let J:Nat->LP:=λn l' h'=>∃F' q,l' = [C,D,d,iQ,w,f,.I last,.I fk,.ptr lh 0,.ptr lm 0]/\Sn F h F' h'/\yo q/\q.heap.length=m.heap.length/\(q.polls:Int)<=fk/\
   ((∃i,n=i+1/\q.steps+i=j/\kJ fk l u of i q fr hpF st jh/\ej F' h' (mcs q 0 0 lm lh Th rm qU ds))\/
    (q.steps=j+1/\∃e,ej F' h' (mcs q 1 ((e:Nat):Int) lm lh Th rm qU ds)))
 refine xM J ?_ (⟨F,m,rfl,.refl _ _,M,rfl,by omega,.inl ⟨j,rfl,by omega,L,H0⟩⟩);intro n _ _ _ _ _ _ _ _ _ _ z v;obtain⟨S,m1,⟨⟩,s1,A,E,K,v⟩:=v;unfold pR;rcases v with⟨i,rfl,hi,T,r⟩|⟨N,e,r⟩
 ·have Qq:=Hy r A (i:=0) rfl (k:=3) rfl rfl;have p:=Hy r A (i:=0) rfl (k:=1) rfl rfl;refine oN Qq (ec (hZ ..) (ec ?_ (gf (fX rfl ?_))))
  ·rw[show((0:Int) == 0)=true from rfl,xL];simp only[fe,eC,fx,p,gX];rw[No (by omega)]
  have fin:∀{x:Ni},l[m1.pc]? =some x->(∀s c b o,iB fk x m1=(b,o)->Sn S z s c->yo b->b.heap.length=m1.heap.length->ej s c (mcs b (if o.isSome=true then 1 else 0) (o.getD 0) lm lh Th rm qU ds)->NG J (i+1) [C,D,d,iQ,w,f,.I last,.I fk,.ptr lh 0,.ptr lm 0] c)->
    cP CS nz [.ptr lm 0,w,.ptr lh 0,.I fk] z λ_ c=>NG J (i+1) [C,D,d,iQ,w,f,.I last,.I fk,.ptr lh 0,.ptr lm 0] c:=λ{x} U hk=>
   zdn r A (hl.since s1) Ma U (ok x (Ap U)) (by omega) (by omega) (by omega) λs c b o he G H g I=>hk s c b o he G H g I
  have y:∀{x:Ni} {b:Ms} {o:Option Int},iB fk x m1=(b,o)->(b.polls:Int)<=fk/\b.steps=m1.steps+1:=λ{x b o} h=>by
   have z:=HI fk x m1;have c:=Ny (x:=x) W K;rw[h]at z c;exact⟨c,z⟩
  cases i with
  | zero=>
    let⟨b,x,e,X,O,B,_⟩:=T.zero
    refine fin O λs c P o h G H g I=>?_;rw[B]at h;cases h;refine⟨0,by omega,?_⟩
    exact⟨s,b,rfl,s1.trans G,H,g.trans E,(y B).1,.inr ⟨by have:=(y B).2;omega,e,I⟩⟩
  | succ i=>
    let⟨t,x,O,B,b3,L2⟩:=T.succ
    refine fin O λs c P o h G H g I=>?_;rw[B]at h;cases h;refine⟨i+1,by omega,?_⟩;exact⟨s,t,rfl,s1.trans G,H,g.trans E,(y B).1,.inl ⟨i,rfl,by omega,L2,I⟩⟩
 ·have Qq:=Hy r A (i:=0) rfl (k:=3) rfl rfl;have p:=Hy r A (i:=0) rfl (k:=1) rfl rfl;have R:=Hy r A (i:=0) rfl (k:=2) rfl rfl;refine oN Qq (ec (hZ ..) (ec (a:= .bool false) (by rw[show((1:Int) == 0)=false from rfl,xF]) (gf (fN (by simp) ?_))));refine oN Qq (ec (rfl) (ec (a:= .bool false) ?_ (ec (a:= .bool false) ?_ (gf (fN (by simp) ?_)))))
  ·simp only[fe,eC,fx,p,gX,jB];rw[JH (by omega)];rfl
  ·simp only[fe,eC,fx,R,iT,jB];rw[JH (by omega)];rfl
  refine oN p ?_;rw[iU,gz,gK (by simp[mR];omega),N];exact HK S z s1 r.tail.tail.tail
theorem zcd{lu ln:Nat}{vv vb vs wc we wn C w v:V}{fG:Int}{In Out:Nat->Nat->Prop}{ls xs:List Int}{W:Nat}(E:zaZ F h u lu ln vv vb vs wc we wn of fG In Out l)(H0:ej F h cs)(q:iD (eI .u64) F h ls C)(hw:iD eIn F h l w)(D:iD (eI .u64) F h xs v)(aa:xs.length<1000)(r:(pZ u of u.ee.length).length<=xs.length)(hW:W<100)
  (H:∀h',Q (.bool true) h'):lH Q [C,.I W,.ptr lu 0,.ptr ln 0,w,v,.I 0,.I W] h:=by
 obtain⟨m0,s⟩:∃m0:Ms,m0=⟨zh (pZ u of u.ee.length) xs CQ,Ts ls 8,0,0,0⟩:=⟨_,rfl⟩
 obtain ⟨J,G⟩:∃J,J=λn l' h'=>∃F' i last,l' = [C,.I W,.ptr lu 0,.ptr ln 0,w,v,.I last,.I ((W+i:Nat):Int)]/\i+n=2/\Sn F h F' h'/\ej F' h' cs/\(i=0->last=0)/\
   (i=1->∃(j:Nat) (fr:List Fw) (hp:List Int) (st:Nat) (jh:Int),last=((j+1:Nat):Int)/\kJ (W:Nat) l u of j m0 fr hp st jh):=⟨_,rfl⟩
 refine xQ J ?_ (k:=2) (by rw[G];exact⟨F,0,0,rfl,rfl,.refl _ _,H0,λ_=>rfl,λh=>by cases h⟩);intro n _ _ _ _ _ _ _ _ h1 f;rw[G]at f;obtain⟨F1,i,last,⟨⟩,hi,s1,H1,p0,p1⟩:=f;unfold pC;rw[iU,gz,gK (by simp[mR];omega)];by_cases FX:i<2;rotate_left
 ·exact iY (H h1)
 refine gJ ?_;have E1:=E.since s1;refine Qa H1 (q.since s1) λh2 lh vh hp N H2 ab e2=>?_;have O:=E1.since N;refine ec (O.cu.xk rfl) ?_;rw[gU]
 let⟨H3,P⟩:=H2.Dy 66 [.I 0,.I 0,.I 0,.ed,.I 0]
 have z:=O.since P;refine⟨⟨eQ _ _,bq⟩,z.cu.xk rfl,?_⟩;have m:=(s1.trans N).trans P;refine Qa H3 (q.since m) λS ac ad ae s4 T U e4=>⟨s4.next,⟨T.get 2 rfl,bq⟩,(z.since s4).cu.xk rfl,?_⟩
 have X:=z.since s4;have I:=m.trans s4;refine zeS (fuel:=1200) X.g T X.ru (D.since I) (by omega) (by omega) (by decide) λF5 h5 K a b c d fw Y Z ag he=>⟨Y.next,⟨Z.get 2 rfl,bq⟩,?_⟩
 have o:gj [V.I a,.I b,.I c,fw,.I d]=true:=by
  rcases he with⟨_,_,rfl⟩|⟨_,_,_,_,_,_,_,_,_,S,_⟩
  ·rfl
  ·simp only[fh,S.one];rfl
 let⟨h6,e6,n6,B,s6⟩:=Z.Wh 2 rfl (n:=5) rfl rfl o
 rw[e6,ef];have t:=(s4.trans Y).trans s6;have p:=z.since t;have x:=m.trans t;refine⟨n6,oF (B.ld 2 rfl rfl) (ec (wj ..) ?_)⟩;rcases he with⟨_,rfl,_⟩|⟨n',fr,st,jh,e1,rfl,rfl,rfl,rfl,r1,k1⟩
 ·exact gf (fX rfl (H h6))
 refine gf (fN (by simp) ?_);refine ec (p.cn.xk rfl) (oF (p.cn.ld rfl) (oF (p.cn.ld rfl) (ec (zcZ D.one) ?_)));have ll:=E.ll;have le:=E.le;have bl:=Du l;have B:=B.tail.tail.tail;refine zbz B p.c p.e p.n (by omega) (by omega) (by omega) p.ok (D.since x) r (by omega) λF7 h7 lm s7 H7 M7=>ec rfl (ec rfl (ec (rfl) (gf (fN (by simp) ?_))))
 let⟨cb,hcs,hle⟩:=E.E
 let⟨j,L,hj⟩:=VJ E.g E.A E.R hcs hle r (λ_=>rfl) e1
 have hn:=zaM e1;rw[e4,<-s]at L;have y:=x.trans s7;have M:=hw.since y;have em:m0=⟨zh (pZ u of u.ee.length) xs CQ,hp,0,0,0⟩:=by rw[s,e2]
 refine zcy L (by rw[em]) (by omega) (by omega) (by rw[em]) (by omega) ?_ (by rw[em];exact⟨M7.len,M7.w⟩) (by rw[em];exact H7) M (by omega) E.okl (by rw[em];show hp.length<_;omega) λF8 h8 s8 H8=>?_
 ·by_cases h0:i=0
  ·rw[p0 h0];omega
  obtain rfl:i=1:=by omega
  obtain⟨j0,_,_,_,_,rfl,L0⟩:=p1 rfl;have:=Pm (by omega) (by rw[em];show((0:Nat):Int)<=_;omega) L0 (L);omega
 ·refine⟨n-1,by omega,?_⟩;rw[G];refine⟨F8,i+1,_,rfl,by omega,y.trans s8,H8,by omega,λf=>⟨j,fr,K,st,c,rfl,?_⟩⟩;obtain rfl:i=0:=by omega
  exact L
theorem Qs{ops a ls ks:List Int}{np fk:Int}{A b vl vk:V}{own:Bool}(G:ej F h cs)(k:iD (eI .i64) F h ops A)(o:iD (eI .i64) F h a b)(hl:iD (eI .u64) F h ls vl)(I:iD (eI .u64) F h ks vk)(K:ops.length<9223372036854775808)
  (H:∀h',Q (.bool true) h'):cP CS rE [.agg [A,b,.I np],vl,vk,.I fk,.bool own] h Q:=by
 refine Am ?_;refine ze9 G k o K λW X u lu ln vv vb vs wc we wn of fG In Out l s1 L E=>?_;have ll:=E.ll;have bl:=Du l;have M:=Uc E.g of u.ee.length;refine ec (rfl) (ec (rfl) (ec (rfl) (gf (fN (by simp) ?_))));refine oF (E.cn.ld rfl) ?_;refine K6 L E.c (by omega) (λj B w Y p C q N=>?_) λj B e p C _ r=>absurd E.d (r l);obtain rfl:=q.uniq E.d;have E:=E.since p;have f:=s1.trans p;refine ec rfl (ec rfl (ec (rfl) (gf (fN (by simp) ?_))));refine VO C (I.since f) λZ v xs O P R=>?_
 let J:Nat->LP:=λn s h'=>∃xs v,s=[vl,.I fk,.ptr lu 0,.ptr ln 0,w,v]/\(pZ u of u.ee.length).length-xs.length=n/\Sn j B j h'/\ej j h' (fu (eI .u64) DE xs v::cs)/\xs.length<=46
 refine xU J ?_ (⟨xs,v,rfl,rfl,O,P,by omega⟩);intro n _ _ _ _ _ v D t;obtain⟨xs,_,⟨⟩,hn,s4,x,R⟩:=t;unfold pG;have y:=E.since s4;refine ec (x.len 0 rfl) (oF (y.cn.ld rfl) (ec y.n.len ?_));by_cases FX:xs.length<(pZ u of u.ee.length).length
 ·refine gJ ?_;rw[yC,fH];obtain⟨S,h5,T,_,z,i⟩:=x.tz 0 rfl (jh:=8) ⟨rfl,ti⟩ (by decide) (by decide) (by omega);rw[show fg DE 1 8 v (.slice D.next 0 1) (D.new (.cells DE 1 true false [.int .u64 0]))=_ from T,ef];refine⟨n-1,by omega,?_⟩;exact⟨xs++[0],S,rfl,by rw[nB,Tj];omega,s4.trans i,z,by rw[nB,Tj];omega⟩
 refine iY (Oc (m:=6) (by decide) (by decide) ?_);have:=yJ fk (m:=6) (by omega)
 let⟨z,i,U⟩:=x.jG 0 rfl
 exact zcd (y.since i) z.tail (((hl.since f).since s4).since i) ((N.since s4).since i) U (by omega) (by omega) (by omega) H
