/- Parts. -/
import Derived.Test.YtcoaokdoecgcbaaGreatDoorM52
import Derived.Test.YtcoaokdoecgcbaaGreatDoorM39
import Derived.Test.YtcoaokdoecgcbaaGreatDoorM51
import Derived.Test.YtcoaokdoecgcbaaGreatDoorM49
import Derived.KernelRfl
import Derived.Test.YtcoaokdoecgcbaaGreatDoorM44
set_option maxHeartbeats 4000000
namespace Go.Proofs.YtcoaokdoecgcbaaGreatDoor.Hx
open Un Dm
variable{bs:List Nat}{ls:List Int}{en:List Nl}{fr:List Fw}{f p:Int}{wc we wn b:V}
abbrev Nz:Nat:=76
def OH(s:Ms)(st ex:Int):List V:=s.mem.map (V.int .u64)++[.I s.pc,.I s.steps,.I s.polls,.I st,.I ex]
structure wG (s:Ms):Prop where
 len:s.mem.length=416
 w:∀k,k<416->ml .u64 (rd s k)
section
variable{F F':Nat->Prop}{h h':Hp}{cs:List Pc}{Q:fj}{s:Ms}{st ex:Int}{i lm:Nat}
theorem zf8(M:wG s){k:Nat}(a:k<416):(OH s st ex)[k]? =some (.int .u64 (rd s k)):=by
 unfold OH;rw[UF (by rw[RC,M.len];exact a),wBH];unfold rd;rw[IY,hZ (by rw[M.len];exact a)];rfl
theorem zgg(M:wG s){k:Nat}:(OH s st ex)[416+k]? = ([.I s.pc,.I s.steps,.I s.polls,.I st,.I ex]:List V)[k]?:=by
 unfold OH;rw[Ze (by rw[RC,M.len];omega),RC,M.len,wBP]
theorem zcF(M:wG s):(OH s st ex).length=421:=by simp[OH,M.len]
theorem zfX(M:wG s){k:Nat}(a:k<416)(v:Int):(OH s st ex).set k (.int .u64 v)=OH {s with mem:=s.mem.set k v} st ex:=by
 unfold OH;rw[List.set_append_left _ _ (by rw[RC,M.len];exact a),List.map_set]
theorem zdk(M:wG s)(k:Nat)(v:V):(OH s st ex).set (416+k) v=s.mem.map (V.int .u64)++([.I s.pc,.I s.steps,.I s.polls,.I st,.I ex]:List V).set k v:=by
 unfold OH;rw[List.set_append_right _ _ (by rw[RC,M.len];omega),RC,M.len,wBP]
theorem wG.put(M:wG s){k:Nat}{v:Int}(a:k<416)(hv:ml .u64 v):wG {s with mem:=s.mem.set k v}:=
 ⟨by simp[M.len],λj b=>by
  show ml .u64 ((s.mem.set k v).getD j 0);rw[MM (by rw[M.len];exact a)];split
  ·exact hv
  ·exact M.w j b⟩
theorem zd2(H:ej F h cs)(M:wG s)(hi:cs[i]? =some (eD lm Nz (OH s st ex))){k o:Nat}(a:k<416)(e:o=k):ez (.ptr lm o) h=some (.int .u64 (rd s k)):=by
 subst e;exact H.ld i hi (zf8 M a)
theorem zfy(H:ej F h cs)(M:wG s)(hi:cs[i]? =some (eD lm Nz (OH s st ex))){k o:Nat}(f:k<416)(e:o=k)(v:Int) :
  ∃h',gj 1 (.ptr lm o) (.int .u64 v) h=some (.val .undef h')/\h.next<=h'.next/\ej F h' (cs.set i (eD lm Nz (OH {s with mem:=s.mem.set k v} st ex)))/\Sn F h F h':=by
 subst e
 let⟨h',a,b,c,d⟩:=H.st i hi (o:=o) (by rw[zcF M];omega) (u:= .int .u64 v) rfl
 rw[zfX M f]at c;exact⟨h',a,b,c,d⟩
theorem oT{k:Nat}(a:k<16):qy 16 1 (.ptr lm (0+0)) (.I k)=some (.ptr lm (0+0+k*1)):=P1 a
theorem T7{k:Nat}(a:k<400):qy 400 1 (.ptr lm (0+16)) (.I k)=some (.ptr lm (0+16+k*1)):=P1 a
theorem Yn(j:ej F h cs)(M:wG s)(hi:cs[i]? =some (eD lm Nz (OH s st ex))){l:Nl}(hl:(l.kind=1/\0<=l.n/\l.n<16)\/(l.kind=2/\0<=l.n/\l.n<400)\/(l.kind≠1/\l.kind≠2))
  (H:∀F' h',Sn F h F' h'->ej F' h' cs->Q (.int .u64 (Bt s.mem l)) h'):cP CS nq [.ptr lm 0,.agg (KW l)] h Q:=by
 refine G9 ?_;refine tR j rfl λf g lx a s1 c=>?_;refine oF (c.ld rfl) (fx ?_);unfold Bt at H;by_cases d:l.kind=1
 ·refine fO d (oF (c.ld rfl) (ec (eC _ _) (ec pf ?_)));obtain⟨k,b⟩:∃k:Nat,l.n=k:=⟨l.n.toNat,by omega⟩
  rw[if_pos d,b]at H;rw[b];refine ec (oT (by omega)) (ec (zd2 a M hi (k:=k) (by omega) (by omega)) ?_);exact H f g s1 a
 rw[if_neg d]at H;refine fH d (fx ?_);by_cases e:l.kind=2
 ·refine fO e (oF (c.ld rfl) (ec (eC _ _) (ec pf ?_)));obtain⟨k,b⟩:∃k:Nat,l.n=k:=⟨l.n.toNat,by omega⟩
  rw[if_pos e,b]at H;rw[b];refine ec (T7 (by omega)) (ec (zd2 a M hi (k:=16+k) (by omega) (by omega)) ?_);exact H f g s1 a
 rw[if_neg e]at H;refine fH e (oF (c.ld rfl) (ec (by rw[gg,iQ]) ?_));exact H f g s1 a
theorem zcf{op:Nat}(a:5<=op/\op<=16)(H:Q (.I ((op-2:Nat):Int)) h):cP CS pk [.I op] h Q:=by
 refine J9 ?_;have r:∀k,op=k+2->Q (.I (k:Int)) h:=λk e=>by
  subst e;exact H
 refine fx (iY (λe=>r 3 (by omega)) λ_=>?_);refine fx (iY (λe=>r 4 (by omega)) λ_=>?_);refine fx (iY (λe=>r 5 (by omega)) λ_=>?_);refine fx (iY (λe=>r 6 (by omega)) λ_=>?_);refine fx (iY (λe=>r 7 (by omega)) λ_=>?_);refine fx (iY (λe=>r 8 (by omega)) λ_=>?_);refine fx (iY (λe=>r 9 (by omega)) λ_=>?_);refine fx (iY (λe=>r 10 (by omega)) λ_=>?_);refine fx (iY (λe=>r 11 (by omega)) λ_=>?_);refine fx (iY (λe=>r 12 (by omega)) λ_=>?_);refine fx (iY (λe=>r 13 (by omega)) λ_=>r 14 (by omega))
abbrev mcs(s:Ms)(st ex:Int)(lm lh Th:Nat)(rm pO:V)(ds:List Pc):List Pc:=eD lm Nz (OH s st ex)::eD lh Th [rm,pO]::ft (eI .u64) wR s.heap pO::ds
variable{ds:List Pc}{lh Th:Nat}{rm pO w:V}{l:List Ni}{fm:Int}
theorem SG(H:ej F h cs)(M:wG s)(hi:cs[i]? =some (eD lm Nz (OH s st ex))){k o:Nat}(f:k<5)(e:o=416+k)(v:Int) :
  ∃h',gj 1 (.ptr lm o) (.I v) h=some (.val .undef h')/\h.next<=h'.next/\ej F h' (cs.set i (eD lm Nz (s.mem.map (V.int .u64)++([.I s.pc,.I s.steps,.I s.polls,.I st,.I ex]:List V).set k (.I v))))/\Sn F h F h':=by
 subst e
 let⟨h',a,b,c,d⟩:=H.st i hi (o:=416+k) (by grind[zcF]) (u:= .I v) rfl
 grind[zdk]
theorem KF(H:ej F h cs)(M:wG s)(hi:cs[i]? =some (eD lm Nz (OH s st ex))){k o:Nat}{u:V}(e:o=416+k)(a:([.I s.pc,.I s.steps,.I s.polls,.I st,.I ex]:List V)[k]? =some u):ez (.ptr lm o) h=some u:=by
 subst e;exact H.ld i hi (by grind[zgg])
theorem zeV(H0:ej F h (mcs s 0 ex lm lh Th rm pO ds))(M:wG s)(hl:hD Zm F h l w)(NP:l.length<1000000){x:Ni}(hx:l[s.pc]? =some x)(ok:AH l.length x)(aJ:s.steps<1000000000)(aK:s.polls<1000000000)(hh:s.heap.length<1000000000)
  (H:∀F' h' s' o,iZ fm x s=(s',o)->Sn F h F' h'->wG s'->s'.heap.length=s.heap.length->ej F' h' (mcs s' (if o.isSome=true then 1 else 0) (o.getD ex) lm lh Th rm pO ds)->Q (.tuple []) h'):cP CS nu [.ptr lm 0,w,.ptr lh 0,.I fm] h Q:=by
 have aa:=(ke.1 hx).1;refine GR ?_;have Pq:=KF H0 M (i:=0) rfl (k:=3) rfl rfl;have W:=KF H0 M (i:=0) rfl (k:=0) rfl rfl
 let⟨l1,G,ws,_,i1,i2,N,_⟩:=hl.ix aa .i64
 have ab:=(ke.1 hx).2;rw[ab]at N;have N:=N;subst N;refine oN Pq (xh (fO rfl ?_));refine oN W (ec (by rfl) ?_);have e1:mi (.bool (decide (((s.pc:Nat):Int)<0))) (oB (some (V.ptr lm 0)) λar=>oB (fR ar) λau=>oB (fJ 416 au) λaw=>oB (ez aw h) λax=>oB (some w) λay=>oB (fE ay) λaz=>ef .geq 3 ax az)=some (.bool false):=by
  rw[LI (by omega),eQ,eC,eQ,fo,eQ,W,eQ,eQ,hl.len,eQ,jK,jj,LI (by omega)];rfl
 refine ec e1 ?_;refine fY (ec rfl (fY (ec rfl (fY (ec (eC _ _) (fY (ec (fo ..) (fY (ec W (fY (ec i1 (fY (ec i2 (fY (ec rfl (fY (ec hl.len (qC ?_))))))))))))))))));refine Of H0 λF1 h1 b s1 H1 hb=>?_;obtain rfl:b=true:=hb.2 ok;refine ec (rfl) (fX (fH (by simp) ?_));have ac:=KF H1 M (i:=0) rfl (k:=0) rfl rfl
 let⟨l2,o2,ws,_,j1,j2,N,_⟩:=(hl.since s1).ix aa .i64
 rw[ab]at N;have N:=N;subst N;refine oN ac (ec j1 (ec j2 ?_));refine ud H1 rfl rfl rfl λP h3 lx H3 s3 c3=>?_;have ad:=KF H3 M (i:=0) rfl (k:=0) rfl rfl;refine ec (eC _ _) (ec pf (oN ad (fG ?_)))
 let⟨h5,e5,_,H5,s5⟩:=SG H3 M (i:=0) rfl (k:=0) (o:=0+416) (by omega) rfl ((s.pc+1:Nat):Int)
 refine ec (eC _ _) (ec pf ?_);rw[e5,eh];have M5:wG {s with pc:=s.pc+1}:=⟨M.len,M.w⟩
 have H5:=H5;have ae:=KF H5 M5 (i:=0) rfl (k:=1) rfl rfl;refine oN ae (fG ?_)
 let⟨A,e6,_,t,s6⟩:=SG H5 M5 (i:=0) rfl (k:=1) (o:=0+417) (by omega) rfl ((s.steps+1:Nat):Int)
 refine ec (eC _ _) (ec pf ?_);rw[e6,eh];have I:wG s.on:=⟨M.len,M.w⟩
 have t:ej P A (mcs s.on 0 ex lm lh Th rm pO ds):=t;have u:=((s1.trans s3).trans s5).trans s6;have c6:=(c3.since s5).since s6;have hw:=M.w;have aA:∀a,ml .u64 (mI s.heap a):=λa=>by
  unfold mI;rcases Sf a.toNat s.heap.length with aB|aL
  ·let⟨_,_,_,_,g3,_⟩:=t.MJ 2 rfl (hZ (l:=s.heap) aB) .i64
   simp_all
  grind[Z2,tC]
 let⟨hop,hnum,⟨ha,ha0⟩,⟨hb',hb0⟩,⟨hc,hc0⟩⟩:=ok
 have x0:ez (.ptr lx (0+0)) A=some (.I x.op):=c6.ld rfl;have g:ez (.ptr lx (0+1)) A=some (.I x.a):=c6.ld rfl;have J:ez (.ptr lx (0+2)) A=some (.I x.b):=c6.ld rfl;have x3:ez (.ptr lx (0+3)) A=some (.I x.c):=c6.ld rfl;have x4:ez (.ptr lx (0+4)) A=some (.I x.n):=c6.ld rfl;have m:∀{k:Nat},k<16->ez (.ptr lm (0+0+k*1)) A=some (.int .u64 (rd s k)):=λ{k} X=>zd2 t I (i:=0) rfl (k:=k) (by omega) (by omega);have fin:∀{k o:Nat} {v:Int},k<416->o=k->ml .u64 v->iZ fm x s=({s.on with mem:=s.on.mem.set k v},none)->∃d,gj 1 (.ptr lm o) (.int .u64 v) A=some (.val .undef d)/\A.next<=d.next/\Q (.tuple []) d:=λ{k o v} X ho hv Y=>by
  let⟨d,f,q,B,C⟩:=zfy t I (i:=0) rfl X ho v
  exact⟨d,f,q,H P d _ none Y (u.trans C) (I.put X hv) rfl B⟩
 refine oF x0 (fx ?_);by_cases G:x.op=1
 ·let⟨d,f,q,p⟩:=fin (k:=x.a) (o:=0+0+x.a*1) (v:=qN x.n) (by omega) (by omega) (xI _) (by unfold iZ;rw[if_pos G];rfl)
  refine io (oF g (oF x4 (ec (by rw[gg,iQ]) (ec (eC _ _) (ec (oT ha) ?_)))))
  simp_all
 refine kw (fx ?_);by_cases o2:x.op=2
 ·let⟨d,f,q,p⟩:=fin (k:=x.a) (o:=0+0+x.a*1) (v:=rd s x.b) (by omega) (by omega) (by grind) (by unfold iZ;rw[if_neg G,if_pos o2];rfl)
  refine io (oF g (oF J (ec (eC _ _) (ec (oT hb') (ec (m hb') (ec (eC _ _) (ec (oT ha) ?_)))))));rw[f,eh];exact⟨q,p⟩
 refine kw (fx ?_);have R:x.op=3\/x.op=4->∃k:Nat,k<400/\x.n=k/\x.n.toNat=k:=λe=>by
  unfold rS at hnum
  grind
 by_cases L:x.op=3
 ·let⟨k,X,en,ek⟩:=R (.inl L)
  let⟨d,f,q,p⟩:=fin (k:=x.a) (o:=0+0+x.a*1) (v:=rd s (16+k)) (by omega) (by omega) (by grind) (by unfold iZ;rw[if_neg G,if_neg o2,if_pos L,ek];rfl)
  rw[en]at x4;refine io (oF g (oF x4 (ec (eC _ _) (ec pf (ec (T7 X) (ec (zd2 t I (i:=0) rfl (k:=16+k) (by omega) (by omega)) (ec (eC _ _) (ec (oT ha) ?_))))))));rw[show rd s.on (16+k)=rd s (16+k) from rfl,f,eh]
  simp_all
 refine kw (fx ?_);by_cases O:x.op=4
 ·let⟨k,X,en,ek⟩:=R (.inr O)
  let⟨d,f,q,p⟩:=fin (k:=16+k) (o:=0+16+k*1) (v:=rd s x.a) (by omega) (by omega) (by grind) (by unfold iZ;rw[if_neg G,if_neg o2,if_neg L,if_pos O,ek];rfl)
  rw[en]at x4;refine io (oF x4 (oF g (ec (eC _ _) (ec (oT ha) (ec (m ha) (ec (eC _ _) (ec pf (ec (T7 X) ?_))))))));rw[f,eh];exact⟨q,p⟩
 refine kw (fx ?_);have val:x.op<=20->iZ fm x s=({s.on with mem:=s.on.mem.set x.a (ti (JR x) (rd s) s.heap)},none):=λe=>Sh ⟨by omega,e⟩;by_cases aC:x.op=17
 ·have S:ti (JR x) (rd s) s.heap=mI s.heap (rd s x.b) / 4294967296:=by unfold ti JR;simp only[aC];rfl
  refine io (oF g (oF J (ec (eC _ _) (ec (oT hb') (ec (m hb') (ec (eC _ _) ?_))))));refine ZM t (i:=1) (j:=2) rfl rfl hh (by grind) λhv=>?_
  let⟨d,f,q,p⟩:=fin (k:=x.a) (o:=0+0+x.a*1) (v:=mI s.heap (rd s x.b) / 4294967296) (by omega) (by omega) hv (by simp_all)
  refine⟨jJ _,ec (by rw[gg,iQ,IU hv]) (ec (oT ha) ⟨g,?_⟩)⟩;rw[show s.on.heap=s.heap from rfl,f,eh]
  simp_all
 refine kw (fx ?_);by_cases aD:x.op=18
 ·have S:ti (JR x) (rd s) s.heap=mI s.heap (rd s x.b) % 4294967296:=by unfold ti JR;simp only[aD];rfl
  refine io (oF g (oF J (ec (eC _ _) (ec (oT hb') (ec (m hb') (ec (eC _ _) ?_))))));refine X6 t (i:=1) (j:=2) rfl rfl hh (by grind) λhv=>?_
  let⟨d,f,q,p⟩:=fin (k:=x.a) (o:=0+0+x.a*1) (v:=mI s.heap (rd s x.b) % 4294967296) (by omega) (by omega) hv (by simp_all)
  refine⟨jJ _,ec (by rw[gg,iQ,IU hv]) (ec (oT ha) ⟨g,?_⟩)⟩;rw[show s.on.heap=s.heap from rfl,f,eh];exact⟨q,p⟩
 refine kw (fx ?_);by_cases aE:x.op=19
 ·have S:ti (JR x) (rd s) s.heap=mI s.heap (qN (rd s x.b+qN x.n)):=by unfold ti JR;simp only[aE];rfl
  refine io (oF g (oF J (ec (eC _ _) (ec (oT hb') (ec (m hb') (oF x4 (ec (by rw[gg,iQ]) (ec (by rw[jf,iQ]) (ec (eC _ _) ?_)))))))));refine JL t (i:=1) (j:=2) rfl rfl hh (xI _) λhv=>?_
  let⟨d,f,q,p⟩:=fin (k:=x.a) (o:=0+0+x.a*1) (v:=mI s.heap (qN (rd s x.b+qN x.n))) (by omega) (by omega) hv (by rw[val (by omega),S])
  refine⟨jJ _,ec (oT ha) ⟨g,?_⟩⟩;rw[show s.on.heap=s.heap from rfl,f,eh];exact⟨q,p⟩
 refine kw (fx ?_);by_cases aF:x.op=20
 ·have S:ti (JR x) (rd s) s.heap=mI s.heap (qN (qN (rd s x.b+1)+rd s x.c)):=by unfold ti JR;simp only[aF];rfl
  refine io (oF g (oF J (ec (eC _ _) (ec (oT hb') (ec (m hb') (ec (by rw[jf,iQ]) (oF x3 (ec (eC _ _) (ec (oT hc) (ec (m hc) (ec (by rw[jf,iQ]) (ec (eC _ _) ?_))))))))))));refine JL t (i:=1) (j:=2) rfl rfl hh (xI _) λhv=>?_
  let⟨d,f,q,p⟩:=fin (k:=x.a) (o:=0+0+x.a*1) (v:=mI s.heap (qN (qN (rd s x.b+1)+rd s x.c))) (by omega) (by omega) hv (by rw[val (by omega),S])
  refine⟨jJ _,ec (oT ha) ⟨g,?_⟩⟩;rw[show s.on.heap=s.heap from rfl,f,eh];exact⟨q,p⟩
 refine kw (fx ?_);by_cases y:x.op=21
 ·refine io (oF g (ec (eC _ _) (ec (oT ha) (ec (m ha) (oF x4 (ec (by rw[gg,iQ]) (ec (by rw[jf,iQ]) (oF J (ec (eC _ _) (ec (oT hb') (ec (m hb') ?_)))))))))));refine Qr t (i:=1) (j:=2) rfl rfl hh (xI _) (hw _ (by omega)) λd r C B=>⟨C.next,?_⟩
  exact H P d {s.on with heap:=Eo s.heap (qN (rd s x.a+qN x.n)) (rd s x.b)} none (by unfold iZ;rw[if_neg G,if_neg o2,if_neg L,if_neg O,if_neg (by omega),if_pos y]) (u.trans C) ⟨M.len,M.w⟩ Ib B
 refine kw (fx ?_);by_cases D:x.op=22
 ·refine io (oF g (ec (eC _ _) (ec (oT ha) (ec (m ha) (ec (by rw[jf,iQ]) (oF J (ec (eC _ _) (ec (oT hb') (ec (m hb') (ec (by rw[jf,iQ]) (oF x3 (ec (eC _ _) (ec (oT hc) (ec (m hc) ?_))))))))))))));refine Qr t (i:=1) (j:=2) rfl rfl hh (xI _) (hw _ (by omega)) λd r C B=>⟨C.next,?_⟩
  exact H P d {s.on with heap:=Eo s.heap (qN (qN (rd s x.a+1)+rd s x.b)) (rd s x.c)} none (by unfold iZ;rw[if_neg G,if_neg o2,if_neg L,if_neg O,if_neg (by omega),if_neg y,if_pos D]) (u.trans C) ⟨M.len,M.w⟩ Ib B
 refine kw (fx ?_);have jump:x.op=23\/x.op=24->iZ fm x s=({s.on with pc:=x.n.toNat},none)->∃d,gj 1 (.ptr lm (0+416)) (.I x.n) A=some (.val .undef d)/\Q (.tuple []) d:=λe Y=>by
  unfold rS at hnum;rw[if_neg (by omega),if_neg (by omega),if_pos e]at hnum
  let⟨d,f,_,B,C⟩:=SG t I (i:=0) rfl (k:=0) (o:=0+416) (by omega) rfl x.n
  have en:x.n=((x.n.toNat:Nat):Int):=by omega
  refine⟨d,f,H P d _ none Y (u.trans C) ⟨M.len,M.w⟩ rfl ?_⟩;rw[en]at B;exact B
 by_cases E:x.op=23
 ·let⟨d,f,p⟩:=jump (.inl E) (by unfold iZ;rw[if_neg G,if_neg o2,if_neg L,if_neg O,if_neg (by omega),if_neg y,if_neg D,if_pos E])
  refine io (oF x4 (ec (eC _ _) (ec pf ?_)));rw[f,eh];exact p
 refine kw (fx ?_);have same:=λY=>H P A _ none Y u I rfl t;by_cases K:x.op=24
 ·refine io (oF g (ec (eC _ _) (ec (oT ha) (ec (m ha) (fx ?_)))));have e:iZ fm x s=(if rd s x.a=0 then{s.on with pc:=x.n.toNat} else s.on,none):=by unfold iZ;rw[if_neg G,if_neg o2,if_neg L,if_neg O,if_neg (by omega),if_neg y,if_neg D,if_neg E,if_pos K]
  by_cases h0:rd s x.a=0
  ·rw[if_pos h0]at e
   let⟨d,f,p⟩:=jump (.inr K) e
   refine fO h0 (oF x4 (ec (eC _ _) (ec pf ?_)));rw[f,eh];exact p
  ·rw[if_neg h0]at e;exact fH h0 (same e)
 refine kw (fx ?_);have leave:iZ fm x s=(s.on,some x.n)->oP (fR (.ptr lm 0)) λag=>oP (fJ 419 ag) λah=>eJ (gj 1 ah (.I 1) A) λ_ ai=>oP (fJ 4 (.ptr lx 0)) λaj=>oP (ez aj ai) λak=>oP (fR (.ptr lm 0)) λal=>oP (fJ 420 al) λam=>eJ (gj 1 am ak ai) λ_ aG=>Q (.tuple []) aG:=λY=>by
  refine ec (eC _ _) (ec pf ?_)
  let⟨d,f,_,B,C⟩:=SG t I (i:=0) rfl (k:=3) (o:=0+419) (by omega) rfl 1
  rw[f,eh];have B:=B;have aH:ez (.ptr lx (0+4)) d=some (.I x.n):=(c6.since C).ld rfl;refine oF aH (ec (eC _ _) (ec pf ?_))
  let⟨h8,e8,_,H8,s8⟩:=SG B I (i:=0) rfl (k:=4) (o:=0+420) (by omega) rfl x.n
  rw[e8,eh];exact H P h8 _ (some x.n) Y ((u.trans C).trans s8) I rfl H8
 by_cases Z:x.op=25
 ·refine io (oF g (ec (eC _ _) (ec (oT ha) (ec (m ha) (fx ?_)))));have e:iZ fm x s=(s.on,if rd s x.a=0 then some x.n else none):=by unfold iZ;rw[if_neg G,if_neg o2,if_neg L,if_neg O,if_neg (by omega),if_neg y,if_neg D,if_neg E,if_neg K,if_pos Z]
  by_cases h0:rd s x.a=0
  ·rw[if_pos h0]at e;exact fO h0 (leave e)
  ·rw[if_neg h0]at e;exact fH h0 (same e)
 refine kw (fx ?_);by_cases an:x.op=26
 ·have e:iZ fm x s=if 0<=fm/\(s.polls:Int)=fm then(s.on,some x.n) else({s.on with polls:=s.polls+1},none):=by unfold iZ;rw[if_neg G,if_neg o2,if_neg L,if_neg O,if_neg (by omega),if_neg y,if_neg D,if_neg E,if_neg K,if_neg Z,if_pos an]
  have lp:ez (.ptr lm (0+418)) A=some (.I s.polls):=KF t I (i:=0) rfl (k:=2) rfl rfl;refine io (ec (jK ..) (ec (a:= .bool (decide (0<=fm/\(s.polls:Int)=fm))) ?_ (fX ?_)))
  ·by_cases c:0<=fm
   ·rw[Ov c,yo];simp only[eQ,eC,fo,lp,gS];congr 2;rw[WK,Ey,yU];exact⟨λh=>⟨c,h⟩,λh=>h.2⟩
   ·rw[LI c,yC,LI λh=>c h.1]
  by_cases z:0<=fm/\(s.polls:Int)=fm
  ·rw[if_pos z]at e;exact fO (Ov z) (leave e)
  ·rw[if_neg z]at e;refine fH (by rw[yU];exact z) (oN lp (fG (ec (eC _ _) (ec pf ?_))))
   let⟨d,f,_,B,C⟩:=SG t I (i:=0) rfl (k:=2) (o:=0+418) (by omega) rfl ((s.polls+1:Nat):Int)
   rw[f,eh];exact H P d _ none e (u.trans C) ⟨M.len,M.w⟩ rfl B
 refine kw (fx ?_);by_cases aM:x.op=27
 ·exact io (leave (by unfold iZ;rw[if_neg G,if_neg o2,if_neg L,if_neg O,if_neg (by omega),if_neg y,if_neg D,if_neg E,if_neg K,if_neg Z,if_neg an]))
 refine kw ?_;have T:5<=x.op/\x.op<=16:=by clear hnum jump;omega
 have U:3<=x.op-2/\x.op-2<=14:=by omega
 have S:ti (JR x) (rd s) s.heap=if x.op=10\/x.op=11 then Ng (x.op-2) (rd s x.b) 0 else Ng (x.op-2) (rd s x.b) (rd s x.c):=by
  unfold ti JR;simp only;rw[if_neg (by omega),if_neg (by omega),if_neg (by omega),if_neg (by omega),if_neg (by omega)];by_cases c:x.op=10\/x.op=11
  ·rw[if_pos c,if_pos (by omega)]
  ·rw[if_neg c,if_neg (by omega)]
 have ao:∀c,(c=true↔x.op=10\/x.op=11)->kV Q [.ptr lx 0,.ptr lm (0+0),.bool c] A:=λc aq=>by
  refine Cc ?_;unfold ue
  cases c with
  | true=>
    have c1:=aq.1 rfl
    let⟨d,f,q,p⟩:=fin (k:=x.a) (o:=0+0+x.a*1) (v:=Ng (x.op-2) (rd s x.b) 0) (by omega) (by omega) (Tp _ _ _) (by rw[val (by omega),S,if_pos c1])
    refine fX (fO rfl (ec (fo ..) (ec g (oF x0 (ec (fo ..) (ec J (ec (eC _ _) (ec (oT hb') (ec (m hb') (ec (eC _ _) (zcf T ⟨jJ _,m hb',J,g,?_⟩)))))))))));refine Mi (hw _ (by omega)) tC U ⟨jJ _,ec rfl (ec rfl (ec (oT ha) ⟨g,?_⟩))⟩;rw[f,eh]
    exact⟨q,p⟩
  | false=>
    have c1:¬(x.op=10\/x.op=11):=λh=>by have:=aq.2 h;cases this
    let⟨d,f,q,p⟩:=fin (k:=x.a) (o:=0+0+x.a*1) (v:=Ng (x.op-2) (rd s x.b) (rd s x.c)) (by omega) (by omega) (Tp _ _ _) (by rw[val (by omega),S,if_neg c1])
    refine fX (fH (by simp) (ec (fo ..) (ec g (oF x0 (ec (fo ..) (ec J (ec (eC _ _) (ec (oT hb') (ec (m hb') (ec (fo ..) (ec x3 (ec (eC _ _) (ec (oT hc) (ec (m hc) (ec (eC _ _) (zcf T ⟨jJ _,m hc,x3,m hb',J,g,?_⟩))))))))))))))));refine Mi (hw _ (by omega)) (hw _ (by omega)) U ⟨jJ _,ec rfl (ec rfl (ec (oT ha) ⟨g,?_⟩))⟩;rw[f,eh];exact⟨q,p⟩
 refine ec (gS ..) (fX ?_);by_cases aI:x.op=10
 ·have e:(((x.op:Nat):Int) == 10)=true:=Ey.2 (by omega);rw[e];exact fO rfl (ao true ⟨λ_=> .inl aI,λ_=>rfl⟩)
 ·have e:(((x.op:Nat):Int) == 10)=false:=Ym.2 (by omega);rw[e];refine fH (by simp) (ec (gS ..) (ao _ ?_));rw[Ey];omega
def zde(l:Nl):Prop:=(l.kind=1/\0<=l.n/\l.n<16)\/(l.kind=2/\0<=l.n/\l.n<400)\/(l.kind≠1/\l.kind≠2)
variable{i0:Nat}
theorem Ww(M:wG s){l:Nl}(hl:zde l):ml .u64 (Bt s.mem l):=by
 unfold Bt;unfold zde at hl;split
 ·exact M.w _ (by omega)
 split
 ·exact M.w _ (by omega)
 ·exact xI _
theorem W7(H0:ej F h cs)(M:wG s)(hi:cs[i0]? =some (eD lm Nz (OH s st ex))){x:Nx}{O:V}(rf:hD eFr F h x.gB O)(am:x.gB.length<=1000)(aa:∀f∈x.gB,f.locals.length<=1000/\f.stack.length<=1000/\(∀l∈f.locals,zde l)/\∀l∈f.stack,zde l)
  (H:∀F' h' w,Sn F h F' h'->ej F' h' cs->hD eFw F' h' (x.gB.map (PS s.mem)) w->Q w h'):cP CS oI [.agg [O,.I x.state,.I x.val],.ptr lm 0] h Q:=by
 refine CP ?_;refine tR H0 (by simp only[fe,rf.one];rfl) λF1 h1 lx H1 s1 c1=>?_;have ab:=rf.since s1
 let J:Nat->LP:=λk P h'=>∃F' i w,P=[.ptr lm 0,.ptr lx 0,w,.I (i:Nat)]/\i+k=x.gB.length/\Sn F1 h1 F' h'/\ej F' h' (ft eFw Rx ((x.gB.take i).map (PS s.mem)) w::cs)
 refine AK J ?_ (k:=x.gB.length) (⟨F1,0,.ed,rfl,by omega,.refl _ _,H1.add .nil λ_ h=>h⟩);intro k _ _ B _ j c;obtain⟨F4,i,B,⟨⟩,hk,s4,R⟩:=c;unfold rr;have S:=ab.since s4;have c4:=c1.since s4;have T:ez (.ptr lx (0+0)) j=some O:=c4.ld rfl;refine oF T (ec S.len ?_);by_cases c:i<x.gB.length;rotate_left
 ·refine iA ?_;obtain rfl:i=x.gB.length:=by omega
  rw[PG]at R
  let⟨H5,s5,r5⟩:=R.hY 0 rfl
  exact H _ j B ((s1.trans s4).trans s5) H5.tail r5
 have ac:=Ho c;have ad:=aa _ (AL c)
 let⟨l1,o1,ws,fl1,L,i2,⟨la,sa,m,ra,rb⟩,i4⟩:=S.ix c .i64
 generalize x.gB[i]=y at*;subst m
 let⟨yl,ys,yol,yos⟩:=ad
 have y0:=i4 0 _ rfl;have y1:=i4 1 _ rfl;refine gy (ec (fo ..) (ec T (ec L (ec (fo ..) (ec y0 (ec (fo ..) (ec T (ec L (ec (fo ..) (ec y1 ?_))))))))));refine ec (rfl) ?_;rw[gI]
 let⟨H5,s5⟩:=R.xC 72 [.I 0,.I 0,.ed,.ed]
 have kp:∀{l o:Nat} {u:V},l<j.next->ez (.ptr l o) j=some u->ez (.ptr l o) (j.new (.cells 72 1 true false [.I 0,.I 0,.ed,.ed]))=some u:=λhl h=>gz h (fi _ hl);have nx:=R.fl _ c4.f;have n1:=R.fl _ fl1;refine⟨⟨fh _ _,bq⟩,kp n1 y1,kp nx T,kp n1 y0,kp nx T,?_⟩
 let⟨h6,e6,n6,H6,s6⟩:=H5.Tw 0 rfl (ws:=[.I y.func,.I y.pc,.ed,.ed]) rfl rfl rfl
 rw[show gj 4 (.ptr j.next 0) (.agg [.I y.func,.I y.pc,.ed,.ed]) (j.new (.cells 72 1 true false [.I 0,.I 0,.ed,.ed]))=_ from e6,eh];refine⟨n6,?_⟩;generalize j.next=t at*;have ae:=s5.trans s6
 obtain ⟨J1,C⟩:∃J1,J1=λk P h'=>∃F' n d,P=[.ptr lm 0,.ptr lx 0,B,.I i,.ptr t 0,.I (n:Nat)]/\n+k=y.locals.length/\Sn F4 h6 F' h'/\
   ej F' h' (ft (eI .u64) wR ((y.locals.take n).map (Bt s.mem)) d::eD t 72 [.I y.func,.I y.pc,d,.ed]::ft eFw Rx ((x.gB.take i).map (PS s.mem)) B::cs):=⟨_,rfl⟩
 refine AO J1 ?_ (k:=y.locals.length) (by rw[C];exact⟨F4,0,.ed,rfl,by omega,.refl _ _,H6.add .nil λ_ h=>h⟩);intro k1 _ _ _ _ _ _ h7 U;rw[C]at U;obtain⟨F7,n,d,⟨⟩,an,s7,H7⟩:=U;unfold rD;have p:=ae.trans s7;have k7:∀{o:Nat} {u:V},ez (.ptr l1 o) j=some u->ez (.ptr l1 o) h7=some u:=λh=>gz h (p.fy l1 fl1);have f7:ez (.ptr lx (0+0)) h7=some O:=(c4.since p).ld rfl;have y2:=k7 (i4 2 _ rfl);have W:=ra.since p;refine oF f7 (ec L (oF y2 (ec W.len ?_)));by_cases hn:n<y.locals.length
 ·have hv:=hZ hn;have e:=Ho hn;have g:=yol _ (AL hn)
  let⟨l3,o3,ws,_,p1,p2,m,_⟩:=W.ix hn .i64
  generalize y.locals[n]=v at*;have m:=m;subst m;have g2:ez (.ptr t (0+2)) h7=some d:=H7.ld 1 rfl rfl;refine gy (ec (fo ..) (ec g2 (oF f7 (ec L (oF y2 (ec p1 (ec p2 ?_)))))));refine Yn H7 M (i:=i0+3) (by simpa using hi) g λF8 z X q=>⟨X.next,?_⟩
  have g3:ez (.ptr t (0+2)) z=some d:=q.ld 1 rfl rfl;rw[vg,gI];obtain⟨ag,h9,e9,n9,A,N⟩:=q.pT 0 rfl (iU:=8) ⟨rfl,Ww M g⟩ (by decide) (by decide) (by simp;omega);refine⟨⟨fh _ _,bq⟩,gz g3 (fi _ (Pc.Aq q 1 rfl)),?_⟩;rw[show fg wR 1 8 d (.slice z.next 0 1) (z.new (.cells wR 1 true false [.int .u64 (Bt s.mem v)]))=_ from e9,eh]
  let⟨ah,D,E,a,b⟩:=A.st 1 (o:=0+2) rfl (by simp) (A.one 0 rfl)
  refine⟨n9,ec pf ?_⟩;rw[D,eh];refine⟨E,fG ⟨k1-1,by omega,?_⟩⟩;rw[C];exact⟨F8,n+1,ag,rfl,by omega,((s7.trans X).trans N).trans b,by rw[e,SL];exact a⟩
 refine iA ?_;obtain rfl:n=y.locals.length:=by omega
 rw[PG]at H7
 obtain ⟨J2,G⟩:∃J2,J2=λk P h'=>∃F' n sw,P=[.ptr lm 0,.ptr lx 0,B,.I i,.ptr t 0,.I (n:Nat)]/\n+k=y.stack.length/\Sn F7 h7 F' h'/\
   ej F' h' (ft (eI .u64) wR ((y.stack.take n).map (Bt s.mem)) sw::ft (eI .u64) wR (y.locals.map (Bt s.mem)) d::eD t 72 [.I y.func,.I y.pc,d,sw]::ft eFw Rx ((x.gB.take i).map (PS s.mem)) B::cs):=⟨_,rfl⟩
 refine AS J2 ?_ (k:=y.stack.length) (by rw[G];exact⟨F7,0,.ed,rfl,by omega,.refl _ _,H7.add .nil λ_ h=>h⟩);intro k2 _ _ _ _ _ _ z Y;rw[G]at Y;obtain⟨F8,n,sw,⟨⟩,ao,X,q⟩:=Y;unfold rq;have r:=p.trans X;have f8:ez (.ptr lx (0+0)) z=some O:=(c4.since r).ld rfl;have y3:=gz (i4 3 _ rfl) (r.fy l1 fl1);have Z:=rb.since r;refine oF f8 (ec L (oF y3 (ec Z.len ?_)));by_cases hn:n<y.stack.length
 ·have e:=Ho hn;have g:=yos _ (AL hn)
  let⟨l3,o3,ws,_,p1,p2,m,_⟩:=Z.ix hn .i64
  generalize y.stack[n]=v at*;have m:=m;subst m;have g2:ez (.ptr t (0+3)) z=some sw:=q.ld 2 rfl rfl;refine gy (ec (fo ..) (ec g2 (oF f8 (ec L (oF y3 (ec p1 (ec p2 ?_)))))));refine Yn q M (i:=i0+4) (by simpa using hi) g λF9 h9 N A=>⟨N.next,?_⟩
  have g3:ez (.ptr t (0+3)) h9=some sw:=A.ld 2 rfl rfl;rw[vg,gI];obtain⟨ai,ah,e9,n9,a,b⟩:=A.pT 0 rfl (iU:=8) ⟨rfl,Ww M g⟩ (by decide) (by decide) (by simp;omega);refine⟨⟨fh _ _,bq⟩,gz g3 (fi _ (Pc.Aq A 2 rfl)),?_⟩;rw[show fg wR 1 8 sw (.slice h9.next 0 1) (h9.new (.cells wR 1 true false [.int .u64 (Bt s.mem v)]))=_ from e9,eh]
  let⟨aj,D,E,I,K⟩:=a.st 2 (o:=0+3) rfl (by simp) (a.one 0 rfl)
  refine⟨n9,ec pf ?_⟩;rw[D,eh];refine⟨E,fG ⟨k2-1,by omega,?_⟩⟩;rw[G];exact⟨F9,n+1,ai,rfl,by omega,((X.trans N).trans b).trans K,by rw[e,SL];exact I⟩
 refine iA ?_;obtain rfl:n=y.stack.length:=by omega
 rw[PG]at q;refine ec (q.tj 2 rfl rfl) ?_
 let⟨A,N,rs9⟩:=q.hY 0 rfl
 let⟨a,b,rl10⟩:=A.tail.hY 0 rfl
 have a:=a.tail.tail;rw[show iO Rx 4 1 (.agg [.I 0,.I 0,.ed,.ed]) [(0,.agg [.I y.func,.I y.pc,d,sw])]=_ from Ce rfl rfl (by simp only[fe,rs9.one,rl10.one];rfl),fK]
 let⟨ak,aj,al,_,I,K⟩:=a.pT 0 rfl (iU:=64) (MB:=Rx) (ro:=false) (y:=PS s.mem y) (w:=[.I y.func,.I y.pc,d,sw]) ⟨_,_,rfl,rl10,rs9.since b⟩ (by decide) (by decide) (by simp;omega)
 rw[show fg Rx 4 64 B (.slice z.next 0 1) (z.new (.cells Rx 4 true false [.I y.func,.I y.pc,d,sw]))=_ from al,eh];refine fG ⟨k-1,by omega,?_⟩;refine⟨_,i+1,ak,rfl,by omega,((((s4.trans r).trans N).trans b).trans K),?_⟩;rw[ac,SL];exact I
theorem HM{ex:List Nx}(H0:ej F h cs)(hc:hD eY F h bs wc)(he:hD eEx F h ex we)(D:hD S9 F h en wn)(nb:bs.length<=2000000)(ne:ex.length<100000000)(nn:en.length<100000000)
  (H:∀F' h' b,Sn F h F' h'->ej F' h' cs->(b=true↔OI bs ex en)->Q (.bool b) h'):cP CS jY [.agg (ntC f p wc we wn)] h Q:=by
 refine zQ ?_;refine tR H0 (by simp only[fe,hc.one,he.one,D.one];rfl) λF1 h1 lx H1 s1 c1=>?_;refine oF (c1.ld rfl) (MW H1 (hc.since s1) nb (λF2 h2 w l s2 H2 hd rl=>?_) λF2 h2 er s2 H2 h0 an=>?_);rotate_left
 ·refine ec rfl (ec rfl (ec (rZ _ _ _ _) ?_));rw[show(er != 0)=true from bne_iff_ne.2 h0];exact fX (fO rfl (H F2 h2 false (s1.trans s2) H2 (V5 λe=>let⟨l,h1,_⟩:=e.dec;an l h1)))
 have c2:=c1.since s2;have A:=s1.trans s2;refine ec rfl (ec rfl (ec (rfl) (fX (fH (by simp) ?_))));have ll:=hd.zcj;have M:=he.since A;have no:∀{F9 B},Sn F2 h2 F9 B->ej F9 B cs->¬OI bs ex en->Q (.bool false) B:=λN O D=>H _ _ false (A.trans N) O (V5 D);refine xQ (λk s h'=>∃i,s=[.ptr lx 0,w,.I (i:Nat)]/\i+k=l.length/\h' = h2/\∀j x,j<i->l[j]? =some x->Lv ex.length x) ?_ (k:=l.length) ⟨0,rfl,by omega,rfl,by omega⟩;rintro k _ _ _ h3 ⟨i,⟨⟩,hk,rfl,hr⟩;unfold oV;refine ec rl.len ?_;by_cases hi:i<l.length
 ·have hx:=hZ hi
  let⟨l1,o1,ws,_,i1,i2,P,i4⟩:=rl.ix hi .i64
  generalize l[i]=x at*;have P:=P;subst P;have l0:=i4 0 _ rfl;have l4:=i4 4 _ rfl;have l3:ez (.ptr lx (0+3)) h3=some we:=c2.ld rfl;have i1:gM 5 w (.I i)=some (.ptr l1 o1):=i1;refine gy (ec i1 (oF l0 (ec (gS _ _ _ _) ?_)));simp only[fo,eQ,i1,l0,l4,l3,M.len,gS,jK,jj,iT,gQ];have aa:(((((x.op:Nat):Int) == 25 ||((x.op:Nat):Int) == 26) ||((x.op:Nat):Int) == 27)&&decide (((ex.length:Nat):Int)<=x.n))=true↔¬Lv ex.length x:=by
   unfold Lv;simp[yF,JD,Ey,yU];omega
  refine fX (iY (λe=>no (.refl _ _) H2 λR=>?_) λe=>?_)
  ·let⟨s,d1,d2⟩:=R.dec
   rw[<-hd.uniq d1]at d2;exact aa.1 e (d2 x (yN hx))
  ·exact fG ⟨k-1,by omega,i+1,rfl,by omega,rfl,zg hx (Classical.byContradiction λD=>e (aa.2 D)) hr⟩
 refine iA ?_;have ao:=CT (by omega) hr
 let J1:Nat->LP:=λk s h'=>∃F' i,s=[.ptr lx 0,.I (i:Nat)]/\i+k=ex.length/\Sn F2 h3 F' h'/\ej F' h' cs/\∀j x,j<i->ex[j]? =some x->TX x
 refine xP J1 ?_ (k:=ex.length) (⟨F2,0,rfl,by omega,.refl _ _,H2,by omega⟩);intro k1 _ _ h5 aq;obtain⟨F5,q,⟨⟩,aH,s5,H5,ab⟩:=aq;unfold oS;have c5:=c2.since s5;have l3:ez (.ptr lx (0+3)) h5=some we:=c5.ld rfl;refine oF l3 (ec (M.since s5).len ?_);by_cases hq:q<ex.length
 ·have hx:=hZ hq
  let⟨l1,o1,ws,_,i1,_,⟨fv,P,rf⟩,i4⟩:=(M.since s5).ix hq .i64
  generalize ex[q]=x at*;subst P;have l0:=i4 0 _ rfl;refine gy (oF l3 (ec i1 (oF l0 (ec rf.len (ec (iF _ _ _ _) ?_)))));simp only[eQ,rf.len,jr,jj,gQ];refine fX (iY (λe=>no s5 H5 λR=>?_) λe=>?_)
  ·have:=R.ex x (yN hx);unfold TX at this;simp[JD,yU]at e;omega
  have ac:1<=x.gB.length/\x.gB.length<=30:=by
   simp[JD,yU]at e;omega
  obtain⟨J3,S⟩:∃J3,J3=λk s h'=>∃F' i,s=[.ptr lx 0,.I q,fv,.I (i:Nat)]/\i+k=x.gB.length/\Sn F5 h5 F' h'/\ej F' h' cs/\∀j f,j<i->x.gB[j]? =some f->zbC f:=⟨_,rfl⟩
  refine xM J3 ?_ (k:=x.gB.length) (by rw[S];exact⟨F5,0,rfl,by omega,.refl _ _,H5,by omega⟩);intro k2 _ _ _ _ a C;rw[S]at C;obtain⟨G,r,⟨⟩,ar,v,T,d⟩:=C;unfold oR;have ad:=rf.since v;have ae:=s5.trans v;refine ec ad.len ?_;by_cases hrl:r<x.gB.length
  ·have hy:=hZ hrl
   let⟨l2,o2,ws,f2,j1,_,⟨la,sa,P,ra,rb⟩,j4⟩:=ad.ix hrl .i64
   generalize x.gB[r]=y at*;subst P;have j1:gM 4 fv (.I r)=some (.ptr l2 o2):=j1;have m2:=j4 2 _ rfl;have m3:=j4 3 _ rfl;have ag:∀{F9 B},Sn G a F9 B->ej F9 B cs->¬zbC y->Q (.bool false) B:=λN O D=>no (ae.trans N) O λR=>D ((R.ex x (yN hx)).2.2 y (yN hy));refine gy (ec j1 (oF m2 (ec ra.len (ec (jr _ _ _ _) ?_))));simp only[fo,eQ,j1,m3,rb.len,jr,jj,gQ];refine fX (iY (λe=>ag (.refl _ _) T λhf=>?_) λe=>?_)
   ·have h1:=hf.1;have h2:=hf.2.1;simp[JD,yU]at e;omega
   have ah:y.locals.length<=40/\y.stack.length<=60:=by
    simp[JD,yU]at e;omega
   rw[za,gI]
   let⟨H8,s8⟩:=T.Ra (E:=S9) (xs:=[]) (ws:=[]) yf rfl trivial rfl
   have g8:=fh a (.cells yf 2 true false []);have k8:∀{o:Nat} {u:V},ez (.ptr l2 o) a=some u->ez (.ptr l2 o) (a.new (.cells yf 2 true false []))=some u:=λh=>gz h (fi _ (T.fl _ f2));have H8:ej G (a.new (.cells yf 2 true false [])) (ft S9 yf [] (.slice a.next 0 0)::cs):=H8;have s8:Sn G a G (a.new (.cells yf 2 true false [])):=s8;have au:=ra.since s8;have aw:=rb.since s8
   first|refine ec j1 (oF (k8 m2) (ec (k8 m3) ⟨⟨g8,bq⟩,?_⟩))|refine ec (k8 m2) (ec (k8 m3) ⟨⟨g8,bq⟩,?_⟩)
   have ax:=k8 m3;generalize a.new (.cells yf 2 true false [])=h8 at*;generalize V.slice a.next 0 0=w8 at*
   let⟨w9,B,e9,n9,O,N⟩:=H8.WI 0 rfl (iU:=16) au (by decide) (by decide) (by simp;omega)
   rw[show fg yf 2 16 w8 la h8=_ from e9,eh];have O:=O
   let⟨ai,aI,ay,az,aA,aB⟩:=O.WI 0 rfl (iU:=16) (aw.since N) (by decide) (by decide) (by simp;omega)
   refine⟨n9,gz ax (N.fy _ f2),?_⟩;rw[show fg yf 2 16 w9 sa B=_ from ay,eh]
   let⟨U,aC,aj⟩:=aA.hY 0 rfl
   have U:=U.tail;rw[RL]at aj;have ak:=((s8.trans N).trans aB).trans aC;refine⟨az,?_⟩;obtain⟨J4,W⟩:∃J4,J4=λk s h'=>∃F' i,s=[.ptr lx 0,.I q,fv,.I r,ai,.I (i:Nat)]/\i+k=(y.locals++y.stack).length/\Sn G a F' h'/\ej F' h' cs/\hD S9 F' h' (y.locals++y.stack) ai/\∀j z,j<i->(y.locals++y.stack)[j]? =some z->pq z false:=⟨_,rfl⟩
   refine xJ J4 ?_ (k:=(y.locals++y.stack).length) (by rw[W];exact⟨_,0,rfl,by omega,ak,U,aj,by omega⟩);intro k4 _ _ _ _ _ _ aJ I;rw[W]at I;obtain⟨aD,t,⟨⟩,aK,g,al,X,J⟩:=I;unfold oQ;refine ec X.len ?_;by_cases ht:t<(y.locals++y.stack).length
   ·have K:=hZ ht;have aE:=AL ht
    let⟨l5,o5,ws,_,t1,t2,Y,_⟩:=X.ix ht .i64
    generalize (y.locals++y.stack)[t]=z at*;have Y:=Y;subst Y;refine gy (ec t1 (ec t2 (ZA al λZ aF b c m hb=>?_)));refine py ?_;have NP:(y.locals++y.stack).length<=100:=by rw[qu];omega
    by_cases hlz:pq z false
    ·refine fO (hb.2 hlz) (fG ⟨k4-1,by omega,?_⟩);rw[W];exact⟨Z,t+1,rfl,by omega,g.trans c,m,X.since c,zg K hlz J⟩
    ·refine fH (λe=>hlz (hb.1 e)) (ag (g.trans c) m λhf=>hlz ?_);rcases yX.1 aE with hm|hm
     ·exact hf.2.2.1 z hm
     ·exact hf.2.2.2 z hm
   ·refine iA (fG ⟨k2-1,by omega,?_⟩);rw[S];have L:=CT (n:=t) (by omega) J;exact⟨aD,r+1,rfl,by omega,v.trans g,al,zg hy ⟨ah.1,ah.2,λz K=>L z (Zu _ K),λz K=>L z (wBL _ K)⟩ d⟩
  ·refine iA (fG ⟨k1-1,by omega,?_⟩);exact⟨G,q+1,rfl,by omega,ae,T,zg hx ⟨ac.1,ac.2,CT (n:=r) (by omega) d⟩ ab⟩
 refine iA ?_;have aG:=CT (n:=q) (by omega) ab;have am:=D.since A
 let J2:Nat->LP:=λk s h'=>∃F' i,s=[.ptr lx 0,.I (i:Nat)]/\i+k=en.length/\Sn F2 h3 F' h'/\ej F' h' cs/\∀j x,j<i->en[j]? =some x->pq x true
 refine xO J2 ?_ (k:=en.length) (⟨F5,0,rfl,by omega,s5,H5,by omega⟩);intro k2 _ _ a C;obtain⟨G,r,⟨⟩,ar,v,T,d⟩:=C;unfold oJ;have l4:ez (.ptr lx (0+4)) a=some wn:=(c2.since v).ld rfl;refine oF l4 (ec (am.since v).len ?_);by_cases hrl:r<en.length
 ·have K:=hZ hrl
  let⟨l5,o5,ws,_,t1,t2,Y,_⟩:=(am.since v).ix hrl .i64
  generalize en[r]=z at*;have Y:=Y;subst Y;refine gy (oF l4 (ec t1 (ec t2 (ZA T λZ aF b c m hb=>?_))));refine py ?_;by_cases hlz:pq z true
  ·refine fO (hb.2 hlz) (fG ⟨k2-1,by omega,?_⟩);exact⟨Z,r+1,rfl,by omega,v.trans c,m,zg K hlz d⟩
  ·exact fH (λe=>hlz (hb.1 e)) (no (v.trans c) m λR=>hlz (R.en z (yN K)))
 ·exact iA (H G a true (A.trans v) T (tru ⟨⟨l,hd,ao⟩,CT (n:=r) (by omega) d,aG⟩))
def Dz:List Int:=List.replicate 416 0
theorem wG.zero(hp:List Int):wG ⟨Dz,hp,0,0,0⟩:=⟨by unfold Dz;exact wBM,λk a=>by
 unfold rd Dz;rw[IY,List.getElem?_replicate,if_pos a];exact tC⟩
theorem Zo{hp:List Int}:∀{en:List Nl}{ls mem:List Int},wG ⟨mem,hp,0,0,0⟩->(∀e∈en,pq e true)->(∀w∈ls,ml .u64 w)->wG ⟨zH en ls mem,hp,0,0,0⟩
 |[],_,_,M,_,_=>M
 |_::_,[],_,M,_,_=>M
 | e ::en,w::ls,mem,M,he,hw=>by
   refine Zo (mem:=CI mem e w) ?_ (by simp_all) (by simp_all);have a:=he e (by simp);unfold pq at a;unfold CI N3;split
   ·rename_i q hq
    refine M.put ?_ (by simp_all)
    grind
   ·exact M
theorem zbB(t:List V)(a:gi t=true):∀l:List Int,gi (l.map (V.int .u64)++t)=true
 |[]=>a
 |x::l=>by rw[wBW,wBS,fe,zbB t a l];rfl
theorem zex(s:Ms)(st ex:Int):gi (OH s st ex)=true:=zbB _ rfl _
theorem SS:∀en ls mem,zH en (ls.take en.length) mem=zH en ls mem
 |[],_,_=>rfl
 |_::_,[],_=>rfl
 |_::en,_::ls,_=>SS en ls _
theorem za0{v:List Nx}{T:V}(H0:ej F h cs)(hc:hD eY F h bs wc)(Y:hD eEx F h v we)(Z:hD S9 F h en wn)(nb:bs.length<=2000000)(ne:v.length<100000000)(nn:en.length<100000000)
  (ok:OI bs v en) (hl:hD (eI .u64) F h ls T) (ae:en.length<=ls.length) (NP:ls.length<100000000)
  (H:∀F' h' lm,Sn F h F' h'->ej F' h' (eD lm Nz (OH ⟨zH en ls Dz,[],0,0,0⟩ 0 0)::cs)->wG ⟨zH en ls Dz,[],0,0,0⟩->Q (.tuple [.ptr lm 0,.bool true]) h') :
  cP CS qt [.agg (ntC f p wc we wn),.agg [.I f,.I p,T,.ed]] h Q:=by
 refine Ft ?_;refine tR H0 (by simp only[fe,hc.one,Y.one,Z.one];rfl) λF1 h1 B H1 s1 c1=>?_;refine tR H1 (by simp only[fe,hl.one];rfl) λF2 h2 x H2 s2 c2=>?_;have m:=s1.trans s2;refine ec ((c1.since s2).tj rfl) ?_;refine HM H2 (hc.since m) (Y.since m) (Z.since m) nb ne nn λF3 t b s3 H3 hb=>?_;obtain rfl:b=true:=hb.2 ok;have y:=m.trans s3;have r:=(c1.since s2).since s3;have j:=c2.since s3;have a0:ez (.ptr B (0+0)) t=some (.I f):=r.ld rfl;have a1:ez (.ptr B (0+1)) t=some (.I p):=r.ld rfl;have a4:ez (.ptr B (0+4)) t=some wn:=r.ld rfl;have b0:ez (.ptr x (0+0)) t=some (.I f):=j.ld rfl;have b1:ez (.ptr x (0+1)) t=some (.I p):=j.ld rfl;have b2:ez (.ptr x (0+2)) t=some T:=j.ld rfl;have b3:ez (.ptr x (0+3)) t=some .ed:=j.ld rfl;have z:=hl.since y;have E:=Z.since y;refine ec (rfl) ?_;refine ec (by simp only[fo,eQ,a0,b0];show mi _ (some (.bool (f != f)))=_;rw[bne_self_eq_false];rfl) ?_;refine ec (by simp only[fo,eQ,a1,b1];rfl) ?_;refine ec (a:= .bool false) (by simp_all) ?_;refine ec (a:= .bool false) (by simp only[fo,eQ,b2,a4,z.len,E.len,iF,jj];simp_all) ?_;refine fX (fH (by simp) ?_);have hb:∀{X:Option V} {K:V->Prop},X=some (V.agg (OH ⟨Dz,[],0,0,0⟩ 0 0))->K (V.agg (OH ⟨Dz,[],0,0,0⟩ 0 0))->oP X K:=λh1 h2=>ec h1 h2;refine hb (by kernel_rfl) ?_;refine oC H3 (zex _ _ _) λh4 H4 s4=>?_;generalize t.next=lm at*;have ag:∀k w,ls[k]? =some w->ml .u64 w:=λk w hk=>by
  let⟨_,_,_,_,_,g⟩:=z.word hk .i64
  exact g
 have ah:∀w∈ls,ml .u64 w:=by grind[mz]
 have G:∀i,wG ⟨zH (en.take i) (ls.take i) Dz,[],0,0,0⟩:=λi=>Zo (wG.zero []) (λe Y=>ok.en e (by grind)) (by grind)
 let J:Nat->LP:=λk l' h'=>∃F' i,l' = [.ptr B 0,.ptr x 0,.ptr lm 0,.I (i:Nat)]/\i+k=en.length/\Sn F3 h4 F' h'/\ej F' h' (eD lm Nz (OH ⟨zH (en.take i) (ls.take i) Dz,[],0,0,0⟩ 0 0)::cs)
 refine Cd J ?_ (k:=en.length) (⟨F3,0,rfl,by omega,.refl _ _,H4⟩);intro k _ _ _ _ C aa;obtain⟨F5,i,⟨⟩,hk,s5,I⟩:=aa;unfold tY;have l:=s4.trans s5;have s:ez (.ptr B (0+4)) C=some wn:=(r.since l).ld rfl;have L:ez (.ptr x (0+2)) C=some T:=(j.since l).ld rfl;have M:=E.since l;have ab:=z.since l;refine oF s (ec M.len ?_);by_cases hi:i<en.length;rotate_left
 ·refine iA ?_;obtain rfl:i=en.length:=by omega
  have N:=G en.length;rw[PG,SS]at I N;exact H F5 C lm (y.trans l) I N
 have c:pq en[i] true:=ok.en _ (AL hi);have O:i<ls.length:=by omega
 have hw:=hZ O;have ac:=Ho hi;have ad:=Ho O
 let⟨p1,o1,ws,_,i1,_,e3,i4⟩:=M.ix hi .i64
 let⟨p2,o2,_,j1,j2,_⟩:=ab.word hw .i64
 generalize en[i]=e at*;generalize ls[i]=u at*;have e3:ws=KW e:=e3;subst e3;have g0:ez (.ptr p1 (o1+0)) C=some (.I e.kind):=i4 0 _ rfl;have U:ez (.ptr p1 (o1+1)) C=some (.I e.n):=i4 1 _ rfl;have N:=G i;have hlen:(en.take i).length=(ls.take i).length:=by simp;omega
 have d:∀{W D},Sn F5 C W D->ej W D (eD lm Nz (OH ⟨CI (zH (en.take i) (ls.take i) Dz) e u,[],0,0,0⟩ 0 0)::cs)->jA Q (Pp J k) [.ptr B 0,.ptr x 0,.ptr lm 0,.I i] D:=λ{W D} P R=>by
  refine Bq ?_;unfold ta;refine fG ⟨k-1,by omega,?_⟩;exact⟨W,i+1,rfl,by omega,s5.trans P,by rw[ac,ad,RZ hlen];exact R⟩
 unfold pq at c;refine gy (oF s (ec i1 (oF g0 (fx ?_))));by_cases A:e.kind=1
 ·rw [if_pos A]at c;obtain⟨q,hq⟩:∃q:Nat,e.n=q:=⟨e.n.toNat,by omega⟩
  have e1:CI (zH (en.take i) (ls.take i) Dz) e u=(zH (en.take i) (ls.take i) Dz).set q u:=by
   unfold CI N3;rw[if_pos A,hq];rfl
  rw[e1]at d;rw[hq]at U
  let⟨D,e6,n6,R,P⟩:=zfy I N (i:=0) rfl (k:=q) (o:=0+0+q*1) (by omega) (by omega) u
  refine fO A (oF s (ec i1 (oF U (oF L (ec j1 (ec j2 (ec (eC _ _) (ec pf (ec (oT (by omega)) ?_)))))))));rw[e6,eh];exact⟨n6,d P R⟩
 rw[if_neg A]at c;refine fH A (fx ?_);by_cases S:e.kind=2
 ·rw [if_pos S]at c;obtain⟨q,hq⟩:∃q:Nat,e.n=q:=⟨e.n.toNat,by omega⟩
  have e1:CI (zH (en.take i) (ls.take i) Dz) e u=(zH (en.take i) (ls.take i) Dz).set (16+q) u:=by
   unfold CI N3;rw[if_neg A,if_pos S,hq];rfl
  rw[e1]at d;rw[hq]at U
  let⟨D,e6,n6,R,P⟩:=zfy I N (i:=0) rfl (k:=16+q) (o:=0+16+q*1) (by omega) (by omega) u
  refine fO S (oF s (ec i1 (oF U (oF L (ec j1 (ec j2 (ec (eC _ _) (ec pf (ec (T7 (by omega)) ?_)))))))));rw[e6,eh];exact⟨n6,d P R⟩
 have e1:CI (zH (en.take i) (ls.take i) Dz) e u=zH (en.take i) (ls.take i) Dz:=by
  unfold CI N3;rw[if_neg A,if_neg S]
 rw[e1]at d;exact fH S (d (.refl _ _) I)
variable{u:U}{of:List Int}{fr:List Fw}{hp:List Int}{st:Nat}{iU:Int}
theorem mq.zero{m:Ms}(L:mq fm l u of 0 m fr hp st iU):∃a x e X,l[m.pc]? =some x/\iZ fm x m=(a,some ((e:Nat):Int))/\(mJ u of)[e]? =some X/\X.state=st/\X.val=iU/\X.gB.map (PS a.mem)=fr/\a.heap=hp/\a.steps=m.steps+1:=by
 let⟨m1,a,x,e,X,G,b,c,d,f,g,h,i,j⟩:=L
 cases G;exact⟨a,x,e,X,b,c,d,f,g,h,i,j⟩
theorem mq.succ{j:Nat}{m:Ms}(L:mq fm l u of (j+1) m fr hp st iU):∃t x,l[m.pc]? =some x/\iZ fm x m=(t,none)/\t.steps=m.steps+1/\mq fm l u of j t fr hp st iU:=by
 let⟨m1,a,x,e,X,G,b,c,d,f,h,i,k,o⟩:=L
 cases G with
 | cons n hs g=>
   rename_i y t;have e1:t.steps=m.steps+1:=by
     have:=IV fm y m;rw[hs]at this;exact this
   exact⟨t,y,n,hs,e1,m1,a,x,e,X,g,b,c,d,f,h,i,k,by omega⟩
variable{l7:Nat}{x4 gL jd ug:V}
theorem ZS(ls:List Int)(k:Nat):(ls++[0]).getD k 0=ls.getD k 0:=by
 simp[IY];rcases wBx k ls.length with h|h|h
 ·rw[UF h]
 ·subst h;have e:ls[ls.length]? =none:=Z2 (jJ _);rw[Ze (jJ _),Nat.sub_self,e];rfl
 ·have e:(ls++[0])[k]? =none:=Z2 (by simp;omega);have e':ls[k]? =none:=Z2 (by omega);rw[e,e']
theorem zet{a:V}{m n:Int}(b:a.one=true):fq [V.I 0,V.I 0,V.ed,V.ed] fd [(0,V.I m),(1,V.I n),(2,a)]=some (.agg [.I m,.I n,a,.ed]):=by
 unfold fq;simp[yd,tD b];rfl
theorem zeh{c:List Nx}{z:V}{l:List Ni}(K:ej F h cs)(u:Cl F h l7 29 (ntC f p wc we wn))(hc:hD eY F h bs wc)(L:hD eEx F h c we)(A:hD S9 F h en wn)
  (nb:bs.length<=2000000) (ne:c.length<100000000) (Z:en.length<100000) (ok:OI bs c en) (hd:Mq bs l) (hl:hD (eI .u64) F h ls z) (NP:ls.length<1000000)
  (M:∀F' h' a lm w,Sn F h F' h'->ej F' h' (eD lm Nz (OH ⟨zH en a Dz,[],0,0,0⟩ 0 0)::cs)->wG ⟨zH en a Dz,[],0,0,0⟩->(∀k,a.getD k 0=ls.getD k 0)->en.length<=a.length->hD Zm F' h' l w->lI Q [x4,.ptr l7 0,gL,jd,ug,.ptr lm 0,w] h') :
  oG Q [z,x4,.ptr l7 0,gL,jd,ug] h:=by
 obtain⟨J,v⟩:∃J:Nat->LP,J=λk B h'=>∃F' a r,B=[r,x4,.ptr l7 0,gL,jd,ug]/\en.length-a.length=k/\Sn F h F' h'/\ej F' h' cs/\hD (eI .u64) F' h' a r/\(∀k,a.getD k 0=ls.getD k 0)/\a.length<2000000:=⟨_,rfl⟩
 refine DC J ?_ (by rw[v];exact⟨F,ls,_,rfl,rfl,.refl _ _,K,hl,λ_=>rfl,by omega⟩);intro k r _ _ _ _ _ d o;rw[v]at o;obtain⟨s,a,_,⟨⟩,hk,s1,C,b,D,N⟩:=o;unfold vh;have O:ez (.ptr l7 (0+4)) d=some wn:=(u.since s1).ld rfl;refine ec b.len (oF O (ec (A.since s1).len ?_));by_cases G6:a.length<en.length
 ·refine gy ?_;rw[za,fK]
  let⟨q,j⟩:=C.Ra (E:=eI .u64) (xs:=[]) (ws:=[]) wR rfl trivial rfl
  have q:ej s (d.new (.cells wR 1 true false [])) (ft (eI .u64) wR [] (.slice d.next 0 0)::cs):=q;have j:Sn s d s (d.new (.cells wR 1 true false [])):=j;generalize d.new (.cells wR 1 true false [])=G at*;generalize V.slice d.next 0 0=w2 at*
  let⟨H,m,P,_,n,t⟩:=q.WI 0 rfl (iU:=8) (b.since j) (by decide) (by decide) (by rw[wBu];omega)
  rw[show fg wR 1 8 w2 r G=_ from P,eh,vg,fK];have n:ej s m (ft (eI .u64) wR a H::cs):=n;obtain⟨w4,h4,R,_,S,s4⟩:=n.pT 0 rfl (iU:=8) ⟨rfl,tC⟩ (by decide) (by decide) (by omega);rw[show fg wR 1 8 H (.slice m.next 0 1) (m.new (.cells wR 1 true false [.int .u64 0]))=_ from R,eh]
  let⟨T,U,W⟩:=S.hY 0 rfl
  refine⟨k-1,by omega,?_⟩;rw[v];exact⟨_,a++[0],_,rfl,by rw[qu,YX];omega,(((s1.trans j).trans t).trans s4).trans U,T.tail,W,λk=>(ZS a k).trans (D k),by rw[qu,YX];omega⟩
 refine iA ?_;have g:=u.since s1;refine ec (g.tj rfl) (oF (g.ld rfl) (oF (g.ld rfl) (ec (zet b.one) ?_)));refine za0 C (hc.since s1) (L.since s1) (A.since s1) nb ne (by omega) ok b (by omega) (by omega) λF2 G lm j q X=>ec rfl (ec rfl ?_);have i:=s1.trans j;refine oF ((u.since i).ld rfl) ?_;refine MW q (hc.since i) nb (λI m w B t n x Y=>?_) λI m e t n _ y=>absurd hd (y l);obtain rfl:=x.uniq hd;refine ec rfl (ec rfl (ec (rfl) (ec rfl (fX (fH (by simp) ?_)))));exact M I m a lm w (i.trans t) n X D (by omega) Y
structure RdW (h:Hp) (xs:List Int) (v:V):Prop where
 len:fE v=some (.I xs.length)
 at_:∀k x,xs[k]? =some x->∃l o,gM 1 v (.I (k:Nat))=some (.ptr l o)/\ez (.ptr l o) h=some (.int .u64 x)
variable{w:U}{vv vb vs wv wb ws yz:V}{locals xs:List Int}{fuel:Nat}
theorem hD.rdW{v:V}(a:hD (eI .u64) F h xs v):RdW h xs v:=⟨a.len,λk x b=>let⟨l,o,_,c,d,_⟩:=a.word b .i64;⟨l,o,c,d⟩⟩
theorem ej.rdW{ty:Nat}{v:V}(H:ej F h cs)(i:Nat)(hi:cs[i]? =some (ft (eI .u64) ty xs v)):RdW h xs v:=⟨H.len i hi,λk x a=>let⟨l,o,b,c,_⟩:=H.MJ i hi a .i64;⟨l,o,b,c⟩⟩
theorem U5{a:V}(c:RdW h xs a)(d:RdW h xs b)(hl:xs.length<1000000000)(H:Q (.bool true) h):cP CS mA [a,b] h Q:=by
 refine Gq ?_;refine ec c.len (ec d.len (xh (fO rfl ?_)));refine B5 (λk l h'=>∃i,l=[a,b,.I (i:Nat)]/\i+k=xs.length/\h' = h) ?_ (k:=xs.length) ⟨0,rfl,by omega,rfl⟩;rintro k _ _ _ h ⟨i,⟨⟩,g,rfl⟩;unfold tL;refine ec c.len ?_;by_cases hi:i<xs.length
 ·let⟨j,m,p1,p2⟩:=c.at_ i _ (hZ hi)
  let⟨n,o2,e,f⟩:=d.at_ i _ (hZ hi)
  refine gy (ec p1 (ec p2 (ec e (ec f (xh (fO rfl ?_))))));exact fG ⟨k-1,by omega,i+1,rfl,by omega,rfl⟩
 ·exact iA H
theorem Us{a:V}(c:RdW h xs a)(d:RdW h xs b)(hl:xs.length<1000000000)(H:Q (.bool true) h):cP CS nB [a,b] h Q:=by
 refine B0 ?_;refine ec c.len (ec d.len (xh (fO rfl ?_)));refine zV (λk l h'=>∃i,l=[a,b,.I (i:Nat)]/\i+k=xs.length/\h' = h) ?_ (k:=xs.length) ⟨0,rfl,by omega,rfl⟩;rintro k _ _ _ h ⟨i,⟨⟩,g,rfl⟩;unfold qE;refine ec c.len ?_;by_cases hi:i<xs.length
 ·let⟨j,m,p1,p2⟩:=c.at_ i _ (hZ hi)
  let⟨n,o2,e,f⟩:=d.at_ i _ (hZ hi)
  refine gy (ec p1 (ec p2 (ec e (ec f (xh (fO rfl ?_))))));exact fG ⟨k-1,by omega,i+1,rfl,by omega,rfl⟩
 ·exact iA H
theorem hD.fw{fs:List Fw}{f:V}(a:hD eFw F h fs f){i:Nat}{x:Fw}(d:fs[i]? =some x) :
  ∃l o a b,gM 4 f (.I i)=some (.ptr l o)/\ez (.ptr l (o+0)) h=some (.I x.func)/\ez (.ptr l (o+1)) h=some (.I x.pc)/\ez (.ptr l (o+2)) h=some a/\ez (.ptr l (o+3)) h=some b/\hD (eI .u64) F h x.locals a/\hD (eI .u64) F h x.stack b:=by
 obtain⟨hi,rfl⟩:=ke.1 d;obtain⟨l,o,w,_,e,_,⟨a,b,rfl,g,j⟩,c⟩:=a.ix hi .i64;exact⟨l,o,a,b,e,c 0 _ rfl,c 1 _ rfl,c 2 _ rfl,c 3 _ rfl,g,j⟩
theorem zav{a:V}(d:hD eFw F h fr a)(e:hD eFw F h fr b)(hl:fr.length<1000000000)(j:∀f∈fr,f.locals.length<1000000000/\f.stack.length<1000000000)(H:Q (.bool true) h):cP CS qP [a,b] h Q:=by
 refine GY ?_;refine ec d.len (ec e.len (xh (fO rfl ?_)));refine Dl (λk l h'=>∃i,l=[a,b,.I (i:Nat)]/\i+k=fr.length/\h' = h) ?_ (k:=fr.length) ⟨0,rfl,by omega,rfl⟩;rintro k _ _ _ h ⟨i,⟨⟩,v,rfl⟩;unfold uS;refine ec d.len ?_;by_cases hi:i<fr.length;rotate_left
 ·exact iA H
 have g:=hZ hi
 let⟨w1,w2⟩:=j _ (AL hi)
 generalize fr[i]=x at*
 let⟨w,y,la,sa,p1,p2,p3,p4,m,n,o⟩:=d.fw g
 let⟨z,o2,lb,sb,c,p,q,r,s,t,u⟩:=e.fw g
 refine gy (ec p1 (oF p2 (ec c (oF p (ec (rZ ..) ?_)))));rw[show(x.func != x.func)=false by simp];refine fY (ec rfl (fY (ec rfl (fY (ec p1 (fY (ec pf (fY (ec p3 (fY (ec rfl (fY (ec rfl (fY (ec c (fY (ec pf (fY (ec q (fY (ec (show _=some (V.bool false) by rw[rZ,show(x.pc != x.pc)=false by simp]) (ec rfl ?_))))))))))))))))))))));refine fY (ec rfl (fY (ec rfl (fY (ec p1 (fY (ec pf (fY (ec p4 (fY (ec rfl (fY (ec rfl (fY (ec c (fY (ec pf (fY (ec r (qC ?_))))))))))))))))))));refine U5 n.rdW t.rdW w1 ⟨jJ _,fY (ec rfl (ec rfl ?_))⟩;refine fY (ec rfl (fY (ec rfl (fY (ec p1 (fY (ec pf (fY (ec m (fY (ec rfl (fY (ec rfl (fY (ec c (fY (ec pf (fY (ec s (qC ?_))))))))))))))))))));refine U5 o.rdW u.rdW w2 ⟨jJ _,Q9 rfl ?_⟩;refine fX (fH (by simp) (fG ⟨k-1,by omega,i+1,rfl,by omega,rfl⟩))
theorem VI(k:ej F h cs){i j:Nat}(hi:cs[i]? =some (eD lh Th [.I 100,pO]))(m:cs[j]? =some (ft (eI .u64) wR hp pO))(hl:hp.length<1000000)
  (H:∀h' v lx,Sn F h F h'->ej F h' (eD lx 115 [.I 100,v]::ft (eI .u64) wR hp v::cs)->Q (.ptr lx 0) h') :
  cP CS kU [.ptr lh 0] h Q:=by
 refine B1 ?_;have n:ez (.ptr lh (0+0)) h=some (.I 100):=k.ld i hi rfl;refine oN n ?_;rw[za,gI]
 let⟨b,s1⟩:=k.Ra (E:=eI .u64) (xs:=[]) wR (ws:=[]) rfl trivial rfl
 have b:=b;have s1:=s1;have c:∀{a:Pc},(a::cs)[i+1]? =some (eD lh Th [.I 100,pO]):=λ{_}=>by simpa using hi
 have e:∀{a:Pc},(a::cs)[j+1]? =some (ft (eI .u64) wR hp pO):=λ{_}=>by simpa using m
 refine oN (b.ld (i+1) c rfl) ⟨⟨fh _ _,bq⟩,b.ld (i+1) c rfl,?_⟩
 let⟨v,s,e2,o,d,p⟩:=b.zeP 0 (j+1) rfl e (iU:=8) (by decide) (by decide) (by simp;omega)
 rw [show fg 63 1 8 (.slice h.next 0 0) pO (h.new (.cells 63 1 true false []))=_ from e2,eh];simp[ RL]at d;have f:=d.one 0 rfl;have g:fq [.I 0,.ed] dZ [(0,.I 100),(1,v)]=some (.agg [.I 100,v]):=by
  rcases d.row 0 rfl with⟨rfl,_⟩|⟨t,q,rfl,_⟩ <;> rfl
 refine⟨o,ec g ?_⟩;refine zeo d (by simp[fe,f];rfl) λl r=>⟨⟨fh _ _,bq⟩,l.ld (i+2) (by simpa using hi) rfl,?_⟩
 exact H _ v _ ((s1.trans p).trans r) l
variable{lv:V}{ls:List Int}
def W4(hp:List Int)(t n:Nat):List Int×Int×Bool:=
 if 100-((hp.length:Nat):Int)<((n+1:Nat):Int) then(hp,0,false)
 else(hp++[qN (IntKind.wrap .u64 (qN (t:Nat)*2 ^ min 32 IntKind.u64.bits)+qN (n:Nat))]++List.replicate n 0,(hp.length:Nat),true)
def zen(hp:List Int)(r:Int)(k:Nat)(x:Int):List Int:=
 if r=0 then hp else if mI hp r % 4294967296<=((k:Nat):Int) then hp else Eo hp (qN (qN (r+1)+qN (k:Nat))) x
def zcU(hp:List Int)(r x:Int):Nat->List Int
 |0=>hp
 |j+1=>zen (zcU hp r x j) r j (x.fdiv (2 ^ min (j*9) IntKind.u64.bits))
def zg3(hp:List Int)(x:Int):List Int:=
 let a:=W4 hp (5+(x.tmod 3).toNat) (x.tmod 5).toNat
 zcU a.1 a.2.1 x (if a.2.2=true then(x.tmod 5).toNat else 0)
def Wo(ls:List Int):Nat->List Int
 |0=>[0]
 | i+1=>match ls[i]? with
   |some x=>zg3 (Wo ls i) x
   |none=>Wo ls i
theorem Ya(b:ej F h cs)(H:∀h' v lx,Sn F h F h'->ej F h' (eD lx 115 [.I 100,v]::ft (eI .u64) wR [0] v::cs)->Q (.ptr lx 0) h'):cP CS pD [.I 100] h Q:=by
 refine DY ?_;rw[vg,fK]
 let⟨a,s1⟩:=b.Ra (E:=eI .u64) (xs:=[0]) wR rfl ⟨_,[],rfl,⟨rfl,tC⟩,trivial⟩ rfl
 have a:=a;have s1:=s1;refine ec (rfl) ?_;refine oC a rfl λc d e=>H c _ _ (s1.trans e) d
theorem zb9(f:ej F h (eD lh Th [.I 100,pO]::ft (eI .u64) wR hp pO::ds))(hl:hp.length<=100){t n:Nat}(N:t<=7)(O:n<=4)
  (H:∀h' d b r ok,Sn F h F h'->ej F h' (eD lh Th [.I 100,d]::ft (eI .u64) wR b d::ds)->b.length<=100->ml .u64 r->W4 hp t n=(b,r,ok)->Q (.tuple [.int .u64 r,.bool ok]) h') :
  cP CS na [.ptr lh 0,.I t,.I n] h Q:=by
 refine A9 ?_;have C:ez (.ptr lh (0+0)) h=some (.I 100):=f.ld 0 rfl rfl;have p:ez (.ptr lh (0+1)) h=some pO:=f.ld 0 rfl rfl;have cl:=f.len 1 rfl;have g:jo .i64 (100-((hp.length:Nat):Int))=100-((hp.length:Nat):Int):=gG (by simp[ml];omega);refine ec (iF ..) ?_;rw[LI (by omega)];refine Q9 (by rw[eQ,jr,LI (by omega)]) (Q9 (by rw[eQ,iF,LI (by omega)]) (Q9 (by rw[eQ,jr,LI (by omega)]) ?_));refine ec (a:= .bool (decide (100-((hp.length:Nat):Int)<((n+1:Nat):Int)))) ?_ (fX ?_)
 ·simp[qK,eQ,eC,fo,C,p,cl,jf,zg6 (n:=n) (by omega),jx,g,jr]
 by_cases c:100-((hp.length:Nat):Int)<((n+1:Nat):Int)
 ·exact fO (Ov c) (H h pO hp 0 false (Sn.refl _ _) f hl tC (if_pos c))
 refine fH (by rw[yU];exact c) ?_;have j:ml .u64 ((hp.length:Nat):Int):=by simp[ml];omega
 refine oN p (ec cl (ec (by rw[gg,iQ,IU j]) (oN p (ec (by rw[gg,iQ]) (ec (rfl) (ec (by rw[gg,iQ]) (ec (by rw[jf,iQ]) ?_)))))));generalize m:qN (IntKind.wrap .u64 (qN (t:Nat)*2 ^ min 32 IntKind.u64.bits)+qN (n:Nat))=y;have q:=m▸xI _;rw[vg,fK];obtain⟨D,P,e1,_,s,s1⟩:=f.pT 1 rfl (iU:=8) ⟨rfl,q⟩ (by decide) (by decide) (by omega);rw[show fg 63 1 8 pO (.slice h.next 0 1) (h.new (.cells 63 1 true false [.int .u64 y]))=_ from e1,eh];simp[DR,M8]at s
 let⟨R,e2,_,z,E⟩:=s.st 0 (o:=0+1) rfl (by simp) (s.one 1 rfl)
 refine ec (eC _ _) (ec pf ?_);rw[e2,eh];simp[DR,M8]at z
 obtain ⟨J,u⟩:∃J:Nat->LP,J=λk l h'=>∃(i:Nat) (d:V) (b:List Int),l=[.ptr lh 0,.I n,.int .u64 ((hp.length:Nat):Int),.I i]/\i+k=n/\Sn F h F h'/\b=hp++[y]++List.replicate i 0/\
   ej F h' (eD lh Th [.I 100,d]::ft (eI .u64) wR b d::ds):=⟨_,rfl⟩
 refine zp J (λk S T U W v hi=>?_) (k:=n) ?_;rotate_left
 ·rw[u];exact⟨0,D,_,rfl,by omega,s1.trans E,by simp,z⟩
 rw[u]at hi;obtain⟨i,d,b,⟨⟩,X,A,e,w⟩:=hi;have G:b.length=hp.length+1+i:=by simp[e];omega
 unfold pV;by_cases hi:i<n;rotate_left
 ·exact iA (H v d b _ true A w (by omega) j (by unfold W4;rw[if_neg c,m,e,show i=n by omega]))
 refine gy (oN (w.ld 0 rfl rfl) ?_);rw[vg,fK];obtain⟨I,Y,K,_,x,s4⟩:=w.pT 1 rfl (iU:=8) ⟨rfl,tC⟩ (by decide) (by decide) (by omega);rw[show fg 63 1 8 d (.slice v.next 0 1) (v.new (.cells 63 1 true false [.int .u64 0]))=_ from K,eh];simp[DR,M8]at x
 let⟨Z,L,_,B,M⟩:=x.st 0 (o:=0+1) rfl (by simp) (x.one 1 rfl)
 refine ec (eC _ _) (ec pf ?_);rw[L,eh];simp[DR,M8]at B;refine fG ⟨k-1,by omega,?_⟩;rw[u];exact⟨i+1,I,_,rfl,by omega,(A.trans s4).trans M,by rw[e,List.replicate_succ',<-Cy],B⟩
theorem zgh(b:ej F h (eD lh Th [.I 100,pO]::ft (eI .u64) wR hp pO::ds))(hl:hp.length<=100){r x:Int}{k:Nat}(d:ml .u64 r)(e:ml .u64 x)(l:k<=1000)
  (H:∀h' a ok,Sn F h F h'->ej F h' (eD lh Th [.I 100,pO]::ft (eI .u64) wR a pO::ds)->a.length<=100->a=zen hp r k x->Q (.bool ok) h') :
  cP CS ou [.ptr lh 0,.int .u64 r,.I k,.int .u64 x] h Q:=by
 refine DE ?_;refine ec (gS ..) ?_;by_cases z:r=0
 ·rw[show(r == 0)=true from Ey.2 z];refine ec (rfl) (tX (tX (tX (Q5 (ec (rfl) (fX (fO rfl (H h hp false (Sn.refl _ _) b hl (if_pos z).symm))))))))
 rw[show(r == 0)=false from Ym.2 z];refine Q9 (by rw[eQ,iF,LI (by omega)]) (fY (ec rfl (fY (ec rfl (fY (ec rfl (qC (X6 b (i:=0) (j:=1) rfl rfl (by omega) d λ_=>?_))))))));refine ec (by rw[qK,jK]) (fX ?_);by_cases c:mI hp r % 4294967296<=((k:Nat):Int)
 ·exact fO (Ov c) (H h hp false (Sn.refl _ _) b hl (by unfold zen;rw[if_neg z,if_pos c]))
 refine fH (by rw[yU];exact c) (ec (by rw[jf,iQ]) (ec (by rw[gg,iQ]) (ec (by rw[jf,iQ]) (Qr b (i:=0) (j:=1) rfl rfl (by omega) (xI _) e λf ok s1 g=>?_))));exact H f _ ok s1 g (by rw[Ib];exact hl) (by unfold zen;rw[if_neg z,if_neg c])
theorem zf7{x:Int}(a:ml .u64 x)(m:Nat):ml .u64 (x.fdiv (2 ^ m)):=by
 have b:(0:Int)<2 ^ m:=Int.pow_pos (by decide);rw[Int.fdiv_eq_ediv_of_nonneg _ (Int.le_of_lt b)];exact⟨Int.ediv_nonneg a.1 (Int.le_of_lt b),Int.le_trans (Int.ediv_le_self _ a.1) a.2⟩
theorem Y5{i:Nat}:∀{k:Nat},(k=0\/ls.length<=i)->Wo ls i=Wo ls (i+k)
 |0,_=>rfl
 | k+1,h=>by
   rw[Y5 (k:=k) (by omega),<-Zz];have e:ls[i+k]? =none:=Z2 (by omega);simp only[Wo,e]
theorem XV(L:ej F h cs)(e:hD (eI .u64) F h ls lv)(H:∀h' lx v hp,Sn F h F h'->ej F h' (eD lx 115 [.I 100,v]::ft (eI .u64) wR hp v::cs)->hp.length<=100->hp=Wo ls 8->Q (.ptr lx 0) h') :
  cP CS pM [lv] h Q:=by
 refine EL ?_;refine Ya L λh1 M lx s1 N=>?_;obtain⟨J,p⟩:∃J,J=λk l h'=>∃i v hp,l=[lv,.ptr lx 0,.I (i:Nat)]/\i+k=8/\Sn F h F h'/\hp.length<=100/\hp=Wo ls i/\ej F h' (eD lx 115 [.I 100,v]::ft (eI .u64) wR hp v::cs):=⟨_,rfl⟩
 refine BD J (λk O P x4 R hi=>?_) (k:=8) ?_;rotate_left
 ·rw[p];exact⟨0,M,[0],rfl,rfl,s1,by simp,rfl,N⟩
 rw[p]at hi;obtain⟨i,S,q,⟨⟩,T,s,f,E,G⟩:=hi;unfold tg;have r2:=e.since s;refine ec r2.len (ec (iF ..) (ec (a:= .bool (decide (i<ls.length/\i<8))) ?_ (fX ?_)))
 ·by_cases c:i<ls.length
  ·rw[Ov (by omega),yo,eQ,iF];congr 2;exact decide_eq_decide.2 (by omega)
  ·rw[LI (by omega),yC,LI λh=>c h.1]
 by_cases c:i<ls.length/\i<8;rotate_left
 ·exact fH (by rw[yU];exact c) (H R lx S q s G f (by rw[E,Y5 (k:=k) (by omega),T]))
 have u:=hZ c.1;generalize ls[i]=x at*
 let⟨l1,o1,_,p1,p2,p3⟩:=r2.word u .i64
 have g:=p3;have U:0<=x.tmod 5/\x.tmod 5<=4:=by rw[wBQ g.1];omega
 have V:0<=x.tmod 3/\x.tmod 3<=2:=by rw[wBQ g.1];omega
 let⟨n,hn⟩:=wBg U.1
 let⟨t,ht⟩:=wBg V.1
 refine fO (Ov c) (ec p1 (ec p2 (ec (show ef .rem 63 (.int .u64 x) (.int .u64 5)=some (.int .u64 (x.tmod 5)) from rfl) (ec (by rw[gg,hn,AV (by omega)]) (ec p1 (ec p2 (ec (show ef .rem 63 (.int .u64 x) (.int .u64 3)=some (.int .u64 (x.tmod 3)) from rfl) (ec (by rw[gg,ht,AV (by omega)]) (ec (by rw[jf,show(5:Int)+(t:Nat)=((5+t:Nat):Int) by omega,AV (by omega)]) ?_)))))))));refine zb9 G f (by omega) (by omega) λh3 w m r ok W X y Y Z=>?_;refine ec (rfl) (ec (rfl) ?_);have z:=s.trans W;obtain⟨A,b⟩:∃A,A=λk l h'=>∃j hp,l=[lv,.ptr lx 0,.I i,.I n,.int .u64 r,.bool ok,.I (j:Nat)]/\j+k=n/\Sn F h F h'/\hp.length<=100/\hp=zcU m r x j/\(ok=false->j=0)/\ej F h' (eD lx 115 [.I 100,w]::ft (eI .u64) wR hp w::cs):=⟨_,rfl⟩
 refine Bc A (λk1 O P x4 x5 x6 x7 x8 h4 hi=>?_) (k:=n) ?_;rotate_left
 ·rw[b];exact⟨0,m,rfl,by omega,z,y,rfl,λ_=>rfl,X⟩
 rw [b]at hi;obtain⟨j,B,⟨⟩,aa,s4,o,I,j0,K⟩:=hi;unfold sF;have out:¬(ok=true/\j<n)->J (k-1) [lv,.ptr lx 0,.I ((i+1:Nat):Int)] h4:=λd=>by
  rw [p];refine⟨i+1,w,B,rfl,by omega,s4,o,?_,K⟩;have e1:(if ok=true then n else 0)=j:=by
   cases ok with
   |false=>rw[j0 rfl];rfl
   |true=>rw[if_pos rfl];have:¬j<n:=λh=>d ⟨rfl,h⟩;omega
  simp only[Wo,u];unfold zg3;rw[<-E,ht,hn,Int.toNat_natCast,Int.toNat_natCast,Z];simp only;rw[e1,I]
 refine ec (a:= .bool (ok&&decide (j<n))) ?_ (fX ?_)
 ·cases ok
  ·rfl
  ·rw[yo,eQ,eQ,iF,Bool.true_and];congr 2;exact decide_eq_decide.2 (by omega)
 by_cases d:ok=true/\j<n;rotate_left
 ·refine fH (by rw[yF,yU];exact d) (fG ⟨k-1,by omega,out d⟩)
 let⟨l2,o2,_,q1,q2,_⟩:=(e.since s4).word u .i64
 refine fO (by rw[yF,yU];exact d) (ec q1 (ec q2 (ec (by rw[Bn,show((j:Nat):Int)*9=((j*9:Nat):Int) by omega,AV (by omega)]) (ec (by rw[gg,iQ,IU (by simp[ml];omega)]) (ec (rfl) ?_)))));refine zgh K o Y (zf7 p3 _) (by omega) λh5 C _ s5 H5 D e5=>?_;refine fG ⟨k1-1,by omega,?_⟩;rw[b];exact⟨j+1,C,rfl,by omega,s4.trans s5,D,by rw[e5,I];rfl,λh=>absurd d.1 (by simp[h]),H5⟩
theorem XH(m:ej F h cs)(b:hD (eI .u64) F h ls lv)(H:∀h' v xs,Sn F h F h'->ej F h' (ft (eI .u64) wR xs v::cs)->xs.length<=6->Q v h'):cP CS mD [lv] h Q:=by
 refine FC ?_;obtain⟨J,d⟩:∃J,J=λk l h'=>∃i v xs,l=[lv,v,.I (i:Nat)]/\i+k=6/\Sn F h F h'/\xs.length=i/\ej F h' (ft (eI .u64) wR xs v::cs):=⟨_,rfl⟩
 refine B3 J (λk s v x4 e hi=>?_) (k:=6) ?_;rotate_left
 ·rw[d];exact⟨0,.ed,[],rfl,rfl,Sn.refl _ _,rfl,m.add .nil λ_ h=>h⟩
 rw[d]at hi;obtain⟨i,_,xs,⟨⟩,t,f,g,j⟩:=hi;unfold tF;have r2:=b.since f;refine ec r2.len (ec (iF ..) (ec (a:= .bool (decide (i<ls.length/\i<6))) ?_ (fX ?_)))
 ·by_cases c:i<ls.length
  ·rw[Ov (by omega),yo,eQ,iF];congr 2;exact decide_eq_decide.2 (by omega)
  ·rw[LI (by omega),yC,LI λh=>c h.1]
 by_cases c:i<ls.length/\i<6;rotate_left
 ·exact fH (by rw[yU];exact c) (H e v xs f j (by omega))
 have n:=hZ c.1;generalize ls[i]=x at*
 let⟨u,w,_,p1,p2,p3⟩:=r2.word n .i64
 refine fO (Ov c) (ec p1 (ec p2 ?_));rw[vg,fK];obtain⟨o,y,p,_,q,r⟩:=j.pT 0 rfl (iU:=8) ⟨rfl,p3⟩ (by decide) (by decide) (by omega);rw[show fg 63 1 8 v (.slice e.next 0 1) (e.new (.cells 63 1 true false [.int .u64 x]))=_ from p,eh];refine fG ⟨k-1,by omega,?_⟩;rw[d];exact⟨i+1,o,_,rfl,by omega,f.trans r,by rw[qu,YX,g],q⟩
theorem zar(b:ej F h cs)(a:hD (eI .u64) F h ls lv)(H:∀F' h' v xs,Sn F h F' h'->ej F' h' cs->hD (eI .u64) F' h' xs v->xs.length<=6->Q v h'):cP CS mD [lv] h Q:=
 XH b a λh' v xs s c hl=>by
  let⟨d,e,f⟩:=c.hY 0 rfl
  exact H _ h' v xs (s.trans e) d.tail f hl
variable{hpF:List Int}{k:Nat}
theorem zao(fm:Int)(x:Ni)(s:Ms):(iZ fm x s).1.polls<=s.polls+1:=by
 unfold iZ;by_cases h0:x.op=1
 ·rw[if_pos h0];exact K5 _
 rw[if_neg h0];by_cases e:x.op=2
 ·rw[if_pos e];exact K5 _
 rw[if_neg e];by_cases f:x.op=3
 ·rw[if_pos f];exact K5 _
 rw[if_neg f];by_cases g:x.op=4
 ·rw[if_pos g];exact K5 _
 rw[if_neg g];by_cases i:x.op<=20
 ·rw[if_pos i];exact K5 _
 rw[if_neg i];by_cases j:x.op=21
 ·rw[if_pos j];exact K5 _
 rw[if_neg j];by_cases k:x.op=22
 ·rw[if_pos k];exact K5 _
 rw[if_neg k];by_cases l:x.op=23
 ·rw[if_pos l];exact K5 _
 rw[if_neg l];by_cases b:x.op=24
 ·rw[if_pos b];by_cases h:rd s x.a=0
  ·rw[if_pos h];exact K5 _
  ·rw[if_neg h];exact K5 _
 rw[if_neg b];by_cases c:x.op=25
 ·rw[if_pos c];exact K5 _
 rw[if_neg c];by_cases d:x.op=26
 ·rw[if_pos d];by_cases h:0<=fm/\(s.polls:Int)=fm
  ·rw[if_pos h];exact K5 _
  ·rw[if_neg h];exact jJ _
 rw[if_neg d];exact K5 _
theorem zdI{j:Nat}{m:Ms}{lm lh K l7 lx Th Ta:Nat}{rm pO va fw w ra:V}(L:mq fm l u of j m fr hpF st iU)(hj:m.steps+j<40*k+40)(hk:k<1000000)(M:wG m)
  (H0:ej F h (mcs m 0 0 lm lh Th rm pO ds)) (hl:hD Zm F h l w) (NP:l.length<1000000) (ok:∀x∈l,AH l.length x) (ac:m.polls<=m.steps) (hh:m.heap.length<1000000) (c7:Cl F h l7 29 (ntC f p wc we wn)) (he:hD eEx F h (mJ u of) we)
  (ad:∀X∈mJ u of,TX X) (cx:Cl F h lx 66 [.I 1,.I st,.I iU,fw,.I k]) (ae:hD eFw F h fr fw) (O:zfE fr) (ca:Cl F h K Ta [ra,va]) (ag:hD (eI .u64) F h hpF va)
  (H:∀F' h',Sn F h F' h'->Q (.bool true) h'):lI Q [.I fm,.ptr l7 0,.ptr K 0,.ptr lh 0,.ptr lx 0,.ptr lm 0,w] h:=by
 obtain ⟨J,hJ⟩:∃J:Nat->LP,J=λn l' h'=>∃F' d,l' = [.I fm,.ptr l7 0,.ptr K 0,.ptr lh 0,.ptr lx 0,.ptr lm 0,w]/\Sn F h F' h'/\wG d/\d.heap.length=m.heap.length/\d.polls<=d.steps/\d.steps<=40*k+40/\
   ((∃i,n=i+1/\d.steps+i<40*k+40/\mq fm l u of i d fr hpF st iU/\ej F' h' (mcs d 0 0 lm lh Th rm pO ds))\/
    ∃e X,(mJ u of)[e]? =some X/\X.state=((st:Nat):Int)/\X.val=iU/\X.gB.map (PS d.mem)=fr/\d.heap=hpF/\ej F' h' (mcs d 1 ((e:Nat):Int) lm lh Th rm pO ds)):=⟨_,rfl⟩
 refine DM J ?_ (by rw[hJ];exact⟨F,m,rfl,.refl _ _,M,rfl,ac,by omega,.inl ⟨j,rfl,hj,L,H0⟩⟩);intro n _ _ _ _ _ _ _ g v;rw[hJ]at v;obtain⟨F1,m1,⟨⟩,s1,N,P,ar,au,v⟩:=v;unfold uK;rcases v with⟨i,rfl,hi,L1,s⟩|⟨e,X,hX,ah,ai,aj,R,s⟩
 ·have Pq:=KF s N (i:=0) rfl (k:=3) rfl rfl;have ak:=KF s N (i:=0) rfl (k:=1) rfl rfl;have lk:ez (.ptr lx (0+4)) g=some (.I k):=(cx.since s1).ld rfl;refine oN Pq (ec (gS ..) (ec ?_ (fX (fO rfl ?_))))
  ·rw[show((0:Int) == 0)=true from rfl,yo];simp only[eQ,eC,fo,ak,lk];rw[show ef .mul 3 (.I 40) (.I k)=some (.I (jo .i64 (40*(k:Nat)))) from rfl,eQ,gG (by simp[ml];omega),jf,eQ,gG (by simp[ml];omega),iF,Ov (by omega)]
  have fin:∀{x:Ni},l[m1.pc]? =some x->(∀B c b o,iZ fm x m1=(b,o)->Sn F1 g B c->wG b->b.heap.length=m1.heap.length->ej B c (mcs b (if o.isSome=true then 1 else 0) (o.getD 0) lm lh Th rm pO ds)->∃k',k' < i+1/\J k' [.I fm,.ptr l7 0,.ptr K 0,.ptr lh 0,.ptr lx 0,.ptr lm 0,w] c)->
    cP CS nu [.ptr lm 0,w,.ptr lh 0,.I fm] g λ_ c=>∃k',k' < i+1/\J k' [.I fm,.ptr l7 0,.ptr K 0,.ptr lh 0,.ptr lx 0,.ptr lm 0,w] c:=λ{x} hx hk=>
   zeV s N (hl.since s1) NP hx (ok x (yN hx)) (by omega) (by omega) (by omega) λB c b o he D S q E=>hk B c b o he D S q E
  have T:∀{x:Ni} {b:Ms} {o:Option Int},iZ fm x m1=(b,o)->b.polls<=b.steps/\b.steps=m1.steps+1:=λ{x b o} h=>by
   have g:=IV fm x m1;have c:=zao fm x m1;rw[h]at g c;exact⟨by have:b.polls<=m1.polls+1:=c;have:b.steps=m1.steps+1:=g;omega,g⟩
  cases i with
  | zero=>
    let⟨b,x,e,X,U,W,b3,b4,b5,b6,b7,b8⟩:=L1.zero
    refine fin U λB c al o h D S q E=>?_;rw[W]at h;cases h;refine⟨0,by omega,?_⟩;rw[hJ]
    exact⟨B,b,rfl,s1.trans D,S,q.trans P,(T W).1,by omega,.inr ⟨e,X,b3,b4,b5,b6,b7,E⟩⟩
  | succ i=>
    let⟨t,x,U,W,b3,L2⟩:=L1.succ
    refine fin U λB c al o h D S q E=>?_;rw[W]at h;cases h;refine⟨i+1,by omega,?_⟩;rw[hJ];exact⟨B,t,rfl,s1.trans D,S,q.trans P,(T W).1,by omega,.inl ⟨i,rfl,by omega,L2,E⟩⟩
 ·have Pq:=KF s N (i:=0) rfl (k:=3) rfl rfl;have G:=KF s N (i:=0) rfl (k:=4) rfl rfl;have I:ez (.ptr l7 (0+3)) g=some we:=(c7.since s1).ld rfl;have Y:=he.since s1;have am:=(ke.1 hX).1;refine oN Pq (ec (gS ..) (ec (by rw[show((1:Int) == 0)=false from rfl,yC]) (fX (fH (by simp) ?_))));refine oN Pq (ec (rfl) (ec (a:= .bool false) ?_ (fX (fH (by simp) ?_))))
  ·simp only[eQ,eC,fo,G,I,Y.len,jK,jj];rw[LI (by omega)];rfl
  let⟨l1,o1,ws,fl1,i1,i2,⟨fv,e3,rf⟩,_⟩:=Y.ix am .i64
  have an:=(ke.1 hX).2;rw[an]at e3 rf;subst e3;refine ec (fo ..) (ec I (ec (eC _ _) (ec (fo ..) (ec G (ec i1 (ec i2 ?_))))));rw[gI]
  let⟨E,D⟩:=s.xC 51 [.ed,.I 0,.I 0]
  refine⟨⟨fh _ _,bq⟩,?_,gz G (fi _ (Pc.Aq s 0 rfl)),gz I (fi _ (s.fl _ (c7.since s1).f)),?_⟩
  ·exact Jh i2 (fi _ (s.fl _ fl1))
  have ao:gi [fv,V.I X.state,.I X.val]=true:=by simp only[fe,rf.one];rfl
  let⟨h3,e4,n3,H3,s3⟩:=E.Tw 0 rfl (ws:=[fv,.I X.state,.I X.val]) rfl rfl ao
  rw [show gj 3 (.ptr g.next 0) (.agg [fv,.I X.state,.I X.val]) (g.new (.cells 51 1 true false [.ed,.I 0,.I 0]))=_ from e4,eh];refine⟨n3,?_⟩;generalize g.next=aq at*;have Z:=D.trans s3;have aa:=s1.trans Z;have r:=cx.since aa;have x1:ez (.ptr lx (0+1)) h3=some (.I st):=r.ld rfl;have x2:ez (.ptr lx (0+2)) h3=some (.I iU):=r.ld rfl;have x3:ez (.ptr lx (0+3)) h3=some fw:=r.ld rfl;have v2:ez (.ptr aq (0+2)) h3=some (.I X.val):=H3.ld 0 rfl rfl;refine oF (H3.ld 0 rfl rfl) (oF x1 (ec (gS ..) ?_));rw[ah,beq_self_eq_true];refine gY (ec (fo ..) (gY (ec v2 (gY (ec (fo ..) (gY (ec x2 (gY (ec (show _=some (V.bool true) by rw[gS,ai,beq_self_eq_true]) (ec rfl ?_))))))))));refine gY (ec (H3.tj 0 rfl rfl) (gY (ec rfl (gY (ec (fo ..) (gY (ec x3 (Ci ?_))))))));have ab:=ad X (yN hX);have lo:∀y,pq y false->zde y:=λy z=>by
   unfold pq at z;split at z
   ·exact .inl ⟨by assumption,z⟩
   split at z
   ·exact .inr (.inl ⟨by assumption,z⟩)
   ·exact .inr (.inr ⟨by assumption,by assumption⟩)
  refine W7 (i0:=1) H3 N rfl (rf.since Z) (by have:=ab.2.1;omega) (λf C=>?_) λF4 h4 w4 s4 H4 r4=>⟨s4.next,?_,?_⟩
  ·have C:=ab.2.2 f C;exact⟨by have:=C.1;omega,by have:=C.2.1;omega,λy z=>lo y (C.2.2.1 y z),λy z=>lo y (C.2.2.2 y z)⟩
  ·first|exact(r.since s4).ld rfl|exact λ_=>(r.since s4).ld rfl
  rw[aj]at r4;have A:=aa.trans s4;refine Ci (zav r4 (ae.since A) (by have:=O.1;omega) (λf C=>by have:=O.2 f C;omega) ⟨jJ _,ec (Fc ..) ?_⟩);rw[if_pos rfl];have a1:ez (.ptr K (0+1)) h4=some va:=(ca.since A).ld rfl;have U:ez (.ptr lh (0+1)) h4=some pO:=H4.ld 2 rfl rfl;refine gY (ec rfl (gY (ec (eC _ _) (gY (ec (fo ..) (gY (ec a1 (gY (ec rfl (gY (ec (eC _ _) (gY (ec (fo ..) (gY (ec U (Ci ?_))))))))))))))));have rb:=H4.rdW 3 rfl;rw[R]at rb;refine Us (ag.since A).rdW rb (by rw[<-R];omega) ⟨jJ _,ec (Fc ..) ?_⟩;rw[if_pos rfl];exact H F4 h4 A
variable{In Out:Nat->Nat->Prop}{fF:Int}{wc we wn:V}
theorem zdo{v:Nat}{x:Vl}{s:Rs}{e:Ex}(h:uQ u fm v x s = .inl e):e=zK u {s with steps:=s.steps+1} x.state v:=by
 unfold uQ at h;split at h
 ·cases h
 split at h
 ·cases h
 split at h
 ·split at h
  ·cases h;rfl
  ·cases h
 split at h
 ·split at h
  ·cases h;rfl
  ·cases h
 ·cases h
theorem YR{fuel k:Nat}{hq:List Int}{st:Nat}{iU:Int}:∀{r:List Nat}{s:Rs},p7 u fm fuel r s = .inl (.left k fr hq st iU)->k<=fuel
 |[],_,h=>by cases h
 | v ::r,s,h=>by
   unfold p7 at h;by_cases hf:fuel<=s.steps
   ·rw[if_pos hf]at h;cases h
   rw[if_neg hf]at h
   cases hx:u.ee[v]? with
   |none=>rw[hx]at h;cases h
   | some x=>
     rw[hx]at h;simp only at h
     cases ho:uQ u fm v x s with
     | inl e=>
       rw[ho]at h;have e1:=zdo ho;rw[e1]at h;have b:=Sum.inl.inj h;injection b with a;have a:s.steps+1=k:=a
       omega
     | inr s1=>
       rw[ho]at h;exact YR h
theorem zcJ{fuel k:Nat}{hq:List Int}{st:Nat}{iU:Int}{locals:List Int}:∀{JQ:Nat}{qJ:Option Nat}{b:Nat}{s:Rs},runM u locals fm fuel JQ qJ b s = .left k fr hq st iU->k<=fuel
 |0,_,_,_,h=>by cases h
 | JQ+1,qJ,b,s,h=>by
   unfold runM at h
   cases hB:u.blocks[b]? with
   |none=>rw[hB]at h;cases h
   | some B=>
     rw[hB]at h;simp only at h
     cases hr:p7 u fm fuel (B.ee.dropWhile (gN u)) (lR u locals qJ B s)with
     | inl e=>
       rw[hr]at h;have h:e = .left k fr hq st iU:=h;rw[h]at hr
       exact YR hr
     | inr s1=>
       rw[hr]at h;simp only at h;by_cases hf:fuel<=s1.steps
       ·rw[if_pos hf]at h;cases h
       rw[if_neg hf]at h;by_cases a:B.fin=3
       ·rw[if_pos a]at h
        injection h with c;have c:s1.steps+1=k:=c;omega
       rw[if_neg a]at h
       cases ht:GM B s1 with
       |none=>rw[ht]at h;cases h
       |some t=>rw[ht]at h;exact zcJ h
theorem XY(g:Good u)(A:mn u (iu u) In Out)(p:kK u Out of fF){f:List (List Ni)}(b:zi u of u.blocks 0 0 f){l:List Ni}(i:l=f.flatten.map (patch (iL 0 f))) {a:List Int}(hl:(qQ u of u.ee.length).length<=a.length)(q:∀k,a.getD k 0=locals.getD k 0)
  {n st:Nat} {fr:List Fw} {hq:List Int} {iU:Int} (e1:runM u locals fm fuel (fuel+1) none 0 (Fj u hp) = .left n fr hq st iU):∃j,mq fm l u of j ⟨zH (qQ u of u.ee.length) a Dz,hp,0,0,0⟩ fr hq st iU/\j<=4*n:=by
 obtain⟨B,h⟩:∃B,u.blocks[0]? =some B:=⟨_,hZ (by have:=g.Xi;omega)⟩
 have R:=zcu (fm:=fm) g A p b (fuel:=fuel) (fuel+1) none 0 (Fj u hp) ⟨zH (qQ u of u.ee.length) a Dz,hp,0,0,0⟩ B h (Xp g A p h (by unfold Dz;exact wBM) hl q) wBM ?_
 ·rw[<-i]at R;rw[e1]at R
  let⟨j,L,hj⟩:=R
  exact⟨j,L,by omega⟩
 ·obtain ⟨c,m,r,s,o,d,rfl⟩:=b.get h;have e:r=[]:=by
   unfold LK at o;rw[if_neg (by rw[g.fk 0 B h,g.Tk];simp)]at o;exact o
  subst e;rw[ Jn]at d;have hs:=Sk m (patch (iL 0 f));rw[RL,SL,yh (Qh g _ _)]at hs;exact⟨s,d,hs⟩
theorem zds(g:Good u)(A:mn u (iu u) In Out)(Z:kK u Out of fF){z:List (List Ni)}(B:zi u of u.blocks 0 0 z){l:List Ni}(C:l=z.flatten.map (patch (iL 0 z)))(okl:∀x∈l,AH l.length x)(NP:l.length<100000)
  (hd:Mq (xL l) l) (ok:OI (xL l) (mJ u of) (qQ u of u.ee.length)) (nb:(xL l).length<=2000000) (ne:(mJ u of).length<100000000)
  (H0:ej F h (eD lh Th [.I 100,pO]::ft (eI .u64) wR hp pO::ds)) (I:EZ F h u vv vb vs) (J:hD eY F h (xL l) wc) (re:hD eEx F h (mJ u of) we) (rn:hD S9 F h (qQ u of u.ee.length) wn)
  (f:hD (eI .u64) F h locals yz) (ll:locals.length<1000000) (hl:hp.length<1000000) (aa:fuel<=10000) (H:∀F' h',Sn F h F' h'->Q (.bool true) h') :
  cP CS qY [.agg (uC u vv vb vs),.agg (ntC u.func u.pc wc we wn),.ptr lh 0,yz,.I fm,.I fuel] h Q:=by
 refine G5 ?_;refine oC H0 I.one λh1 H1 s1=>tR H1 (by simp only[fe,J.one,re.one,rn.one];rfl) λF2 h2 l7 H2 s2 y=>?_;refine VI H2 (i:=1) (j:=2) rfl rfl hl λh3 xv K M H3=>VI H3 (i:=3) (j:=4) rfl rfl hl λN yv lb s4 O=>?_;have k:=((s1.trans s2).trans M).trans s4;refine ec (O.tj 4 rfl rfl) ?_;refine zfP g (O.perm [2,3,0,1,4,5,6] 7 (by decide) (by decide) (by simp)) (I.since k) (f.since k) (by omega) (by omega) (by omega) λF5 h5 ab a b c d fw P H5 ac R=>?_;have D:=k.trans P;have o:gi [V.I a,.I b,.I c,fw,.I d]=true:=by
  rcases R with⟨_,_,rfl⟩|⟨_,_,_,_,_,_,_,_,_,N,_⟩
  ·rfl
  ·simp only[fe,N.one];rfl
 refine ud H5 rfl rfl o λS T lx U E W=>?_;have q:=D.trans E;refine oF (W.ld rfl) (ec (rZ ..) ?_);rcases R with⟨_,rfl,_⟩|⟨n,fr,st,iU,e1,rfl,rfl,rfl,rfl,r1,k1⟩
 ·exact fX (fO rfl (H S T q))
 refine fX (fH (by simp) ?_)
 let⟨H7,s7⟩:=U.Co 0 rfl
 have ca:Cl (λm=>S m\/m=K) T K _ [V.I 100,xv]:=⟨.inr rfl,U.get 0 rfl⟩
 let⟨G,X,r8⟩:=H7.tail.hY 0 rfl
 have G:=G.tail;have p:=s7.trans X;have e:=q.trans p;have y:=((((y.since M).since s4).since P).since E).since p;refine zeh G y (J.since e) (re.since e) (rn.since e) nb ne (by have:=QO g of u.ee.length;omega) ok hd (f.since e) ll λF9 h9 ad lm w r H9 Y hz s hw=>?_
 let⟨j,L,hj⟩:=XY g A Z B C s hz e1
 have hk:n<1000000:=by have:=zcJ e1;omega
 have t:=p.trans r;have v:=e.trans r;exact zdI L (by show 0+j<_;omega) hk ⟨Y.len,Y.w⟩ H9 hw (by omega) okl (jJ _) hl (y.since r) (re.since v) ok.ex (W.since t) ((r1.since E).since t) k1 (ca.since (X.trans r)) (r8.since r) λF' h' s'=>H F' h' (v.trans s')
theorem zfk{X:Option V}{K:Bool->V->Prop}(h:oP X (K true)):oP (gD true (.bool true)) λb=>oP (gV b X) (K b):=h
theorem Wy{ops a ls ks:List Int}{np fm:Int}{p f vl vk:V}{own:Bool}(t:ej F h cs)(j:hD (eI .i64) F h ops p)(k:hD (eI .i64) F h a f)(hl:hD (eI .u64) F h ls vl)(x:hD (eI .u64) F h ks vk)(y:ops.length<9223372036854775808)
  (H:∀h',Q (.bool true) h'):cP CS tZ [.agg [p,f,.I np],vl,vk,.I fm,.bool own] h Q:=by
 refine Ca ?_;refine zgo t j k y λO P u lu ln vv vb vs wc we wn of fF In Out l s1 z E=>?_;have le:=E.le;have ll:=E.ll;have bl:=IQ l;have B:=QO E.g of u.ee.length;refine ec (rfl) (ec (rfl) (ec (rfl) ?_));refine fY (ec (E.cn.tj rfl) (qC (HM z E.c E.e E.n (by omega) (by omega) (by omega) λS T b q C o=>?_)));obtain rfl:=o.2 E.ok;have E:=E.since q;refine ec (rfl) (fY (ec (E.cn.tj rfl) (qC (zap C E.c E.e E.n (by omega) (by omega) (by omega) λU W b r D o=>?_))));obtain rfl:=o.2 E.ok;have E:=E.since r;have i:=(s1.trans q).trans r;refine ec (rfl) (fX (fH (by simp) ?_));refine oF (E.cn.ld rfl) (oF (E.cu.ld rfl) (ec (gS ..) ?_));rw[beq_self_eq_true];refine gY (ec pf (gY (ec (E.cn.ld rfl) (gY (ec pf (gY (ec (E.cu.ld rfl) (gY (ec (show _=some (V.bool true) by rw[gS,beq_self_eq_true]) (ec rfl ?_))))))))));refine zfk (ec (E.cu.tj rfl) (zfk (ec (E.cn.tj rfl) (gY (ec rfl (gY (ec rfl (gY (ec rfl ?_)))))))));refine Ci (XV D (hl.since i) λX lx v hp s4 G I _=>?_);have E:=E.since s4;refine⟨s4.next,E.cn.tj rfl,E.cu.tj rfl,Ci (zar G (x.since (i.trans s4)) λY Z w xs s J K L=>?_)⟩;have E:=E.since s;refine⟨s.next,E.cn.tj rfl,E.cu.tj rfl,Ci (Pu (by decide) (by decide) ⟨jJ _,gY ?_⟩)⟩;have:=zq fm (m:=9) (by omega);refine ec (by rw[jx,gG (by simp[ml];omega)]) ⟨E.cn.tj rfl,E.cu.tj rfl,Ci ?_⟩
 let⟨cb,hcs,hle⟩:=E.E
 exact zds E.g E.A E.R hcs hle E.okl (by omega) E.d E.ok (by omega) (by omega) J E.ru E.c E.e E.n K (by omega) (by omega) (by decide) λF6 M N=>⟨N.next,ec (Fc ..) (H M)⟩
