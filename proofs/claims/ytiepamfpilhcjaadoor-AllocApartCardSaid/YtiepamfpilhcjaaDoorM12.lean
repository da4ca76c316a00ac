/- Parts of the proof. -/
import Derived.Test.YtiepamfpilhcjaaDoorM11
namespace Go.Proofs.YtiepamfpilhcjaaDoor.Un
open Go.Proofs.YtiepamfpilhcjaaDoor.Dm
def Ow (t:Dt) (v b:Nat):Prop:=(∃B,t.blocks[b]? = some B∧v∈B.vals)∨(b=t.blocks.length∧v∈t.s.cur)
def Kn (D:Nat→Nat) (t:Dt) (a w:Nat):Prop:=∃(b:Nat) (x:Vl),Ow t w b∧Anc D b a∧t.s.vals[w]? = some x∧gives x.op=true
structure Le (t t' : Dt):Prop where
 ow:∀(w b:Nat),Ow t w b→Ow t' w b
 back:∀(w b:Nat),w<t.s.vals.length→Ow t' w b→Ow t w b
 val:∀(w:Nat) (x:Vl),t.s.vals[w]? = some x→∃y,t'.s.vals[w]? = some y∧y.op=x.op
 st:∀(s:Nat) (fs:List Fm),t.s.states[s]? = some fs→t'.s.states[s]? = some fs
theorem Le.refl (t:Dt):Le t t:=⟨fun _ _ h=>h,fun _ _ _ h=>h,fun _ x h=>⟨x,h,rfl⟩,fun _ _ h=>h⟩
theorem Kn.mono {D:Nat→Nat} {t t' : Dt} {a w:Nat} (h:Kn D t a w) (hle:Le t t'):Kn D t' a w:=by
 obtain ⟨b,x,h1,h2,h3,h4⟩:=h
 obtain ⟨y,h5,h6⟩:=hle.val w x h3
 exact ⟨b,y,hle.ow w b h1,h2,h5,by rw [h6];exact h4⟩
theorem Kn.up {D:Nat→Nat} {t:Dt} {a a' w:Nat} (h:Kn D t a w) (ha:Anc D a a'):Kn D t a' w:=by
 obtain ⟨b,x,h1,h2,h3⟩:=h
 exact ⟨b,x,h1,h2.trans ha,h3⟩
theorem Kn.lt {D:Nat→Nat} {t:Dt} {a w:Nat} (h:Kn D t a w):w<t.s.vals.length:=by
 obtain ⟨b,x,_,_,h3,_⟩:=h
 exact (List.getElem?_eq_some_iff.1 h3).1
structure Vok (D:Nat→Nat) (t:Dt) (v:Nat) (x:Vl):Prop where
 op:1≤x.op∧x.op≤23
 putAt:x.op=20→x.args.length=1
 par:x.op=1→Ow t v 0∧x.n=(v:Nat)∧v<5
 own:∃b,Ow t v b∧(x.op≠21→∀w∈uses x,w<v∧Kn D t b w)∧(leaves x.op=true→∃fs,t.s.states[x.state]? = some fs∧∀w∈frames fs,w<v∧Kn D t b w)∧
  (isHead x.op=true→∀w,Ow t w b→w<v→∃y,t.s.vals[w]? = some y∧isHead y.op=true)
theorem Vok.mono {D:Nat→Nat} {t t' : Dt} {v:Nat} {x:Vl} (h:Vok D t v x) (hle:Le t t') (hv:v<t.s.vals.length):Vok D t' v x:=by
 obtain ⟨b,h1,h2,h3,h4⟩:=h.own
 refine ⟨h.op,h.putAt,fun h1=>⟨hle.ow _ _ (h.par h1).1,(h.par h1).2⟩,b,hle.ow _ _ h1,fun hn w hw=>⟨(h2 hn w hw).1,(h2 hn w hw).2.mono hle⟩,fun hl=>?_,fun hh w hw hlt=>?_⟩
 ·obtain ⟨fs,g1,g2⟩:=h3 hl
  exact ⟨fs,hle.st _ _ g1,fun w hw=>⟨(g2 w hw).1,(g2 w hw).2.mono hle⟩⟩
 ·obtain ⟨y,g1,g2⟩:=h4 hh w (hle.back w b (by omega) hw) hlt
  obtain ⟨z,g3,g4⟩:=hle.val w y g1
  exact ⟨z,g3,by rw [g4];exact g2⟩
def Phok (D:Nat→Nat) (t:Dt) (ps:List Nat) (x:Vl):Prop:=x.args.length=ps.length∧∀(j w q:Nat),x.args[j]? = some w→ps[j]? = some q→Kn D t q w
def Fin (D:Nat→Nat) (t:Dt) (b:Nat) (B:Bk):Prop:=(B.fin=1∧B.next.length=1)∨(B.fin=2∧B.next.length=2∧Kn D t b B.cond)∨(B.fin=3∧B.next=[]∧∃fs,t.s.states[B.state]? = some fs∧∀w∈frames fs,Kn D t b w)
theorem Fin.mono {D:Nat→Nat} {t t' : Dt} {b:Nat} {B:Bk} (h:Fin D t b B) (hle:Le t t'):Fin D t' b B:=by
 rcases h with h | ⟨h1,h2,h3⟩ | ⟨h1,h2,fs,h3,h4⟩
 ·exact .inl h
 ·exact .inr (.inl ⟨h1,h2,h3.mono hle⟩)
 ·exact .inr (.inr ⟨h1,h2,fs,hle.st _ _ h3,fun w hw=>(h4 w hw).mono hle⟩)
structure Mid (D:Nat→Nat) (pr nx:Nat→List Nat) (E:Nat→Prop) (t:Dt):Prop where
 cat:t.blocks.flatMap (·.vals)++t.s.cur=List.range t.s.vals.length
 vok:∀(v:Nat) (x:Vl),t.s.vals[v]? = some x→Vok D t v x
 ph:∀(v:Nat) (x:Vl),t.s.vals[v]? = some x→x.op=21→∃b,Ow t v b∧b≠0∧(¬E v→Phok D t (pr b) x)
 bk:∀(b:Nat) (B:Bk),t.blocks[b]? = some B→B.next=nx b∧B.preds=pr b∧Fin D t b B
 st:∀(s:Nat) (fs:List Fm),t.s.states[s]? = some fs→fs.length=1∧∀f∈fs,f.locals.length≤3∧f.stack.length=1∧(∀w∈f.locals,∃a,Kn D t a w)∧∀w∈f.stack,∃a,Kn D t a w
 pc:t.preds=pr t.blocks.length
 ne:t.s.known≠[]
 kn:∀w∈t.s.known,Kn D t t.blocks.length w
section
variable {D:Nat→Nat} {pr nx:Nat→List Nat} {E:Nat→Prop} {t:Dt}
def putT (t:Dt) (x:Vl):Dt:={ t with s:=put t.s x }
theorem put_le (t:Dt) (x:Vl):Le t (putT t x) where
 ow w b h:=by
  rcases h with h | ⟨h1,h2⟩
  ·exact .inl h
  ·exact .inr ⟨h1,by show w∈t.s.cur++_;exact List.mem_append_left _ h2⟩
 back w b hw h:=by
  rcases h with h | ⟨h1,h2⟩
  ·exact .inl h
  ·refine .inr ⟨h1,?_⟩
   have h3:w∈t.s.cur++[t.s.vals.length]:=h2
   rcases List.mem_append.1 h3 with h3 | h3
   ·exact h3
   ·simp at h3;omega
 val w y h:=⟨y,by show (t.s.vals++[x])[w]? = some y;rw [List.getElem?_append_left (List.getElem?_eq_some_iff.1 h).1];exact h,rfl⟩
 st s fs h:=h
theorem Mid.put (hM:Mid D pr nx E t) {x:Vl} (ho:1≤x.op∧x.op≤23) (hpa:x.op=20→x.args.length=1) (hpar:x.op=1→t.blocks.length=0∧x.n=(t.s.vals.length:Nat)∧t.s.vals.length<5)
  (hu:x.op≠21→∀w∈uses x,Kn D t t.blocks.length w) (hl:leaves x.op=true→∃fs,t.s.states[x.state]? = some fs∧∀w∈frames fs,Kn D t t.blocks.length w)
  (hh:isHead x.op=true→∀w∈t.s.cur,∃y,t.s.vals[w]? = some y∧isHead y.op=true) (hph:x.op=21→t.blocks.length≠0∧(¬E t.s.vals.length→Phok D t (pr t.blocks.length) x)) :
  Mid D pr nx E (putT t x)∧(gives x.op=true→Kn D (putT t x) t.blocks.length t.s.vals.length):=by
 have hle:=put_le t x
 have hnew:Ow (putT t x) t.s.vals.length t.blocks.length:= .inr ⟨rfl,by show t.s.vals.length∈t.s.cur++[t.s.vals.length];simp⟩
 have hval:(putT t x).s.vals[t.s.vals.length]? = some x:=by show (t.s.vals++[x])[t.s.vals.length]? = some x;simp
 have hcase:∀(v:Nat) (y:Vl),(putT t x).s.vals[v]? = some y→t.s.vals[v]? = some y∨v=t.s.vals.length∧y=x:=fun v y h=>by
  have h' : (t.s.vals++[x])[v]? = some y:=h
  by_cases hv:v<t.s.vals.length
  ·rw [List.getElem?_append_left hv] at h';exact .inl h'
  ·have:v<(t.s.vals++[x]).length:=(List.getElem?_eq_some_iff.1 h').1
   simp at this
   have hv' : v=t.s.vals.length:=by omega
   subst hv'
   simp at h'
   exact .inr ⟨rfl,h'.symm⟩
 refine ⟨⟨?_,fun v y h=>?_,fun v y h hop=>?_,fun b B h=>⟨(hM.bk b B h).1,(hM.bk b B h).2.1,(hM.bk b B h).2.2.mono hle⟩,fun s fs h=>?_,hM.pc,hM.ne,fun w hw=>(hM.kn w hw).mono hle⟩,fun hg=>⟨_,x,hnew, .refl _,hval,hg⟩⟩
 ·show t.blocks.flatMap (·.vals)++(t.s.cur++[t.s.vals.length])=List.range (t.s.vals++[x]).length
  rw [←List.append_assoc,hM.cat,List.length_append,List.length_singleton,List.range_succ]
 ·rcases hcase v y h with h | ⟨rfl,rfl⟩
  ·exact (hM.vok v y h).mono hle (List.getElem?_eq_some_iff.1 h).1
  ·refine ⟨ho,hpa,fun h1=>?_,t.blocks.length,hnew,fun hn w hw=>⟨(hu hn w hw).lt,(hu hn w hw).mono hle⟩,fun h1=>?_,fun h1 w hw hlt=>?_⟩
   ·obtain ⟨g1,g2⟩:=hpar h1
    rw [g1] at hnew
    exact ⟨hnew,g2⟩
   ·obtain ⟨fs,g1,g2⟩:=hl h1
    exact ⟨fs,g1,fun w hw=>⟨(g2 w hw).lt,(g2 w hw).mono hle⟩⟩
   ·have h3:=hle.back w _ hlt hw
    rcases h3 with ⟨B,h4,_⟩ | ⟨_,h4⟩
    ·have:=(List.getElem?_eq_some_iff.1 h4).1
     omega
    ·obtain ⟨z,g1,g2⟩:=hh h1 w h4
     obtain ⟨z',g3,g4⟩:=hle.val w z g1
     exact ⟨z',g3,by rw [g4];exact g2⟩
 ·rcases hcase v y h with h | ⟨rfl,rfl⟩
  ·obtain ⟨b,g1,g2,g3⟩:=hM.ph v y h hop
   refine ⟨b,hle.ow _ _ g1,g2,fun hE=>⟨(g3 hE).1,fun j w q h1 h2=>((g3 hE).2 j w q h1 h2).mono hle⟩⟩
  ·obtain ⟨g1,g2⟩:=hph hop
   exact ⟨_,hnew,g1,fun hE=>⟨(g2 hE).1,fun j w q h1 h2=>((g2 hE).2 j w q h1 h2).mono hle⟩⟩
 ·obtain ⟨g1,g2⟩:=hM.st s fs h
  refine ⟨g1,fun f hf=>?_⟩
  obtain ⟨g3,g4,g5,g6⟩:=g2 f hf
  exact ⟨g3,g4,fun w hw=>(g5 w hw).imp fun a h=>h.mono hle,fun w hw=>(g6 w hw).imp fun a h=>h.mono hle⟩
theorem Mid.knows (hM:Mid D pr nx E t) {l:List Nat} (hl:∀w∈l,Kn D t t.blocks.length w) (hne:l≠[]):Mid D pr nx E { t with s:={ t.s with known:=l } }:=
 ⟨hM.cat,fun v x h=>⟨(hM.vok v x h).op,(hM.vok v x h).putAt,(hM.vok v x h).par,(hM.vok v x h).own⟩,hM.ph,hM.bk,hM.st,hM.pc,hne,hl⟩
theorem Mid.at_ (hM:Mid D pr nx E t) (p:Nat):Mid D pr nx E { t with s:={ t.s with pos:=p } }:=
 ⟨hM.cat,fun v x h=>⟨(hM.vok v x h).op,(hM.vok v x h).putAt,(hM.vok v x h).par,(hM.vok v x h).own⟩,hM.ph,hM.bk,hM.st,hM.pc,hM.ne,hM.kn⟩
end
def on (t:Dt) (s:Ds):Dt:={ t with s:=s }
structure Gw (t t' : Dt):Prop where
 blocks:t'.blocks=t.blocks
 preds:t'.preds=t.preds
 known:∃k,t'.s.known=t.s.known++k
 vals:∃e,t'.s.vals=t.s.vals++e
 le:Le t t'
theorem Le.trans {t t' t'' : Dt} (h1:Le t t') (h2:Le t' t'') (hn:t.s.vals.length≤t'.s.vals.length):Le t t'' where
 ow w b h:=h2.ow w b (h1.ow w b h)
 back w b hw h:=h1.back w b hw (h2.back w b (by omega) h)
 val w x h:=by
  obtain ⟨y,g1,g2⟩:=h1.val w x h
  obtain ⟨z,g3,g4⟩:=h2.val w y g1
  exact ⟨z,g3,by rw [g4,g2]⟩
 st s fs h:=h2.st s fs (h1.st s fs h)
theorem Gw.refl (t:Dt):Gw t t:=⟨rfl,rfl,⟨[],by simp⟩,⟨[],by simp⟩, .refl t⟩
theorem Gw.len {t t' : Dt} (h:Gw t t'):t.s.vals.length≤t'.s.vals.length:=by
 obtain ⟨e,he⟩:=h.vals
 rw [he];simp
theorem Gw.trans {t t' t'' : Dt} (h1:Gw t t') (h2:Gw t' t''):Gw t t'':=by
 obtain ⟨k,hk⟩:=h1.known
 obtain ⟨k',hk'⟩:=h2.known
 obtain ⟨e,he⟩:=h1.vals
 obtain ⟨e',he'⟩:=h2.vals
 exact ⟨h2.blocks.trans h1.blocks,h2.preds.trans h1.preds,⟨k++k',by rw [hk',hk,List.append_assoc]⟩,⟨e++e',by rw [he',he,List.append_assoc]⟩,h1.le.trans h2.le h1.len⟩
theorem Gw.pos (t:Dt) (p:Nat):Gw t (on t { t.s with pos:=p }):=⟨rfl,rfl,⟨[],(List.append_nil _).symm⟩,⟨[],(List.append_nil _).symm⟩,⟨fun _ _ h=>h,fun _ _ _ h=>h,fun _ x h=>⟨x,h,rfl⟩,fun _ _ h=>h⟩⟩
theorem getD_mem {l:List Nat} {i:Nat} (h:i<l.length):l.getD i 0∈l:=by
 rw [List.getD_eq_getElem?_getD,List.getElem?_eq_getElem h]
 simp
theorem one_mem (ops:List Int) {s:Ds} (h:s.known≠[]):(one_ ops s).1∈s.known:=getD_mem (draw_lt ops s.pos (List.length_pos_iff.2 h))
theorem last_mem {l:List Nat} (h:l≠[]):l.getLastD 0∈l:=by
 cases l with
 | nil=>exact absurd rfl h
 | cons a l =>
   rw [List.getLastD_cons]
   cases l with
   | nil => simp
   | cons b l =>
     refine .tail _ ?_
     rw [List.getLastD_eq_getLast?]
     cases hg : (b :: l).getLast? with
     | none => simp at hg
     | some z => exact List.mem_of_getLast? hg
theorem some_spec (ops:List Int):∀(i:Nat) (s:Ds) (l:List Nat),s.known≠[]→(∃p,(some_ ops i s l).2 = { s with pos:=p })∧(some_ ops i s l).1.length=l.length+i∧∀w∈(some_ ops i s l).1,w∈l∨w∈s.known
 | 0,s,l,_=>⟨⟨s.pos,rfl⟩,rfl,fun w h=> .inl h⟩
 | i + 1, s, l, h => by
   obtain ⟨⟨p, h1⟩, h2, h3⟩ := some_spec ops i (one_ ops s).2 (l ++ [(one_ ops s).1]) h
   refine ⟨⟨p, h1⟩, by unfold some_; rw [h2]; simp; omega, fun w hw => ?_⟩
   rcases h3 w hw with h3 | h3
   · rcases List.mem_append.1 h3 with h3 | h3
     · exact .inl h3
     · simp at h3; subst h3; exact .inr (one_mem ops h)
   · exact .inr h3
section
variable {D:Nat→Nat} {pr nx:Nat→List Nat} {E:Nat→Prop} {t:Dt}
theorem Mid.le1 (t:Dt) (fs:List Fm) (p:Nat):Le t (on t { t.s with states:=t.s.states++[fs],pos:=p }):=
 ⟨fun _ _ h=>h,fun _ _ _ h=>h,fun _ x h=>⟨x,h,rfl⟩,fun s g h=>by show (t.s.states++[fs])[s]? = some g;rw [List.getElem?_append_left (List.getElem?_eq_some_iff.1 h).1];exact h⟩
theorem Mid.state (hM:Mid D pr nx E t) (ops:List Int):Mid D pr nx E (on t (stateM ops t.s).2)∧Gw t (on t (stateM ops t.s).2)∧(stateM ops t.s).2.known=t.s.known∧(stateM ops t.s).2.vals=t.s.vals∧(stateM ops t.s).2.cur=t.s.cur∧
  ∃fs,(stateM ops t.s).2.states[(stateM ops t.s).1]? = some fs∧∀w∈frames fs,w∈t.s.known:=by
 obtain ⟨⟨p,h1⟩,h2,h3⟩:=some_spec ops (num ops t.s 4).1 (num ops t.s 4).2 [] hM.ne
 have h4:(num ops t.s 4).1<4:=draw_lt _ _ (by omega)
 have hs:(stateM ops t.s).2 = { t.s with states:=t.s.states++[[⟨1,(t.s.states.length:Nat),(some_ ops (num ops t.s 4).1 (num ops t.s 4).2 []).1,[t.s.known.getLastD 0]⟩]],pos:=p }:=by
  unfold stateM
  simp only
  rw [h1]
  rfl
 rw [hs]
 generalize (some_ ops (num ops t.s 4).1 (num ops t.s 4).2 []).1=l at *
 have hle:=Mid.le1 t [⟨1,(t.s.states.length:Nat),l,[t.s.known.getLastD 0]⟩] p
 have hl:∀w∈l,w∈t.s.known:=fun w hw=>(h3 w hw).elim (fun h=>by cases h) id
 have hgl:=last_mem hM.ne
 refine ⟨⟨hM.cat,fun v x h=>(hM.vok v x h).mono hle (List.getElem?_eq_some_iff.1 h).1,fun v x h ho=>?_,fun b B h=>⟨(hM.bk b B h).1,(hM.bk b B h).2.1,(hM.bk b B h).2.2.mono hle⟩,fun s fs h=>?_,hM.pc,hM.ne,fun w hw=>(hM.kn w hw).mono hle⟩,
  ⟨rfl,rfl,⟨[],(List.append_nil _).symm⟩,⟨[],(List.append_nil _).symm⟩,hle⟩,rfl,rfl,rfl,[⟨1,(t.s.states.length:Nat),l,[t.s.known.getLastD 0]⟩],List.getElem?_concat_length,fun w hw=>?_⟩
 ·obtain ⟨b,g1,g2,g3⟩:=hM.ph v x h ho
  exact ⟨b,hle.ow _ _ g1,g2,fun hE=>⟨(g3 hE).1,fun j w q e1 e2=>((g3 hE).2 j w q e1 e2).mono hle⟩⟩
 ·have h' : (t.s.states++[[⟨1,(t.s.states.length:Nat),l,[t.s.known.getLastD 0]⟩]])[s]? = some fs:=h
  by_cases hlt:s<t.s.states.length
  ·rw [List.getElem?_append_left hlt] at h'
   obtain ⟨g1,g2⟩:=hM.st s fs h'
   refine ⟨g1,fun f hf=>?_⟩
   obtain ⟨g3,g4,g5,g6⟩:=g2 f hf
   exact ⟨g3,g4,fun w hw=>(g5 w hw).imp fun a h=>h.mono hle,fun w hw=>(g6 w hw).imp fun a h=>h.mono hle⟩
  ·rw [List.getElem?_append_right (by omega)] at h'
   have hm:=List.mem_of_getElem? h'
   simp at hm
   subst hm
   refine ⟨rfl,fun f hf=>?_⟩
   simp at hf
   subst hf
   refine ⟨by show l.length≤3;rw [h2];simp;omega,rfl,fun w hw=>⟨_,(hM.kn w (hl w hw)).mono hle⟩,fun w hw=>?_⟩
   have hw' : w=t.s.known.getLastD 0:=by simpa using hw
   subst hw'
   exact ⟨_,(hM.kn _ hgl).mono hle⟩
 ·simp only [frames,List.flatMap_cons,List.flatMap_nil,List.append_nil,List.mem_append,List.mem_singleton] at hw
  rcases hw with hw | rfl
  ·exact hl w hw
  ·exact hgl
theorem Mid.put1 (hM:Mid D pr nx E t) {x:Vl} (ho:2≤x.op∧x.op≤23∧x.op≠21) (hpa:x.op=20→x.args.length=1) (hu:∀w∈uses x,w∈t.s.known) (hl:leaves x.op=true→∃fs,t.s.states[x.state]? = some fs∧∀w∈frames fs,w∈t.s.known) :
  Mid D pr nx E (on t (Un.put t.s x))∧Gw t (on t (Un.put t.s x))∧(gives x.op=true→Kn D (on t (Un.put t.s x)) t.blocks.length t.s.vals.length):=by
 have hnh:isHead x.op=true→False:=fun h=>by
  simp [isHead] at h
  omega
 obtain ⟨h1,h2⟩:=hM.put (x:=x) ⟨by omega,ho.2.1⟩ hpa (fun h=>by omega) (fun _ w hw=>hM.kn w (hu w hw)) (fun h=>by obtain ⟨fs,g1,g2⟩:=hl h;exact ⟨fs,g1,fun w hw=>hM.kn w (g2 w hw)⟩) (fun h=>(hnh h).elim) (fun h=>absurd h ho.2.2)
 exact ⟨h1,⟨rfl,rfl,⟨[],(List.append_nil _).symm⟩,⟨[x],rfl⟩,put_le t x⟩,h2⟩
theorem Mid.putK1 (hM:Mid D pr nx E t) {x:Vl} (ho:2≤x.op∧x.op<19) (hu:∀w∈uses x,w∈t.s.known):Mid D pr nx E (on t (putK t.s x))∧Gw t (on t (putK t.s x)):=by
 obtain ⟨h1,h2,h3⟩:=hM.put1 (x:=x) ⟨ho.1,by omega,by omega⟩ (fun h=>by omega) hu (fun h=>by simp [leaves] at h;omega)
 have hk:=h3 (by simp [gives];omega)
 have h4:=h1.knows (l:=t.s.known++[t.s.vals.length]) (fun w hw=>by
  rcases List.mem_append.1 hw with hw | hw
  ·exact (hM.kn w hw).mono h2.le
  ·simp at hw;subst hw;exact hk) (by simp)
 exact ⟨h4,⟨rfl,rfl,⟨[t.s.vals.length],rfl⟩,⟨[x],rfl⟩,⟨h2.le.ow,h2.le.back,h2.le.val,h2.le.st⟩⟩⟩
end
theorem uses_sub (x:Vl):∀w∈uses x,w=x.a∨w=x.b∨w∈x.args:=by
 intro w hw
 unfold uses at hw
 split at hw
 ·exact .inr (.inr hw)
 split at hw
 ·rcases List.mem_cons.1 hw with h | hw
  ·exact .inl h
  ·rcases List.mem_cons.1 hw with h | hw
   ·exact .inr (.inl h)
   ·exact .inr (.inr (List.mem_of_mem_take hw))
 split at hw
 ·simp at hw
  rcases hw with h | h
  ·exact .inl h
  ·exact .inr (.inl h)
 split at hw
 ·simp at hw
  exact .inl hw
 ·cases hw
section
variable {D:Nat→Nat} {pr nx:Nat→List Nat} {E:Nat→Prop} {t:Dt}
theorem Mid.kind (hM:Mid D pr nx E t) (ops:List Int) {k a b:Nat} (ha:a∈t.s.known) (hb:b∈t.s.known):Mid D pr nx E (on t (kindM ops t.s k a b))∧Gw t (on t (kindM ops t.s k a b)):=by
 have hab:∀x:Vl,x.a=a→x.b=b→x.args=[]→∀w∈uses x,w∈t.s.known:=fun x h1 h2 h3 w hw=>by
  rcases uses_sub x w hw with h | h | h
  ·rw [h,h1];exact ha
  ·rw [h,h2];exact hb
  ·rw [h3] at h;cases h
 have num' : ∀m,Mid D pr nx E (on t (num ops t.s m).2)∧Gw t (on t (num ops t.s m).2):=fun m=>⟨hM.at_ _,Gw.pos t _⟩
 have one1:∀(op:Nat) (n:Int),oneP op=true→two op=false→op≠20→op≠21→∀w∈uses (vl op a 0 n [] 0),w=a:=fun op n h1 h2 h3 h4 w hw=>by
  simp [uses,vl,h1,h2,h3,h4] at hw
  exact hw
 unfold kindM
 split
 ·rename_i hk
  exact hM.putK1 (x:=vl (3+k) a b 0 [] 0) (by simp only [vl];omega) (hab _ rfl rfl rfl)
 split
 ·obtain ⟨h1,h2⟩:=num' 1048576
  obtain ⟨h3,h4⟩:=h1.putK1 (x:=vl 2 0 0 (((num ops t.s 1048576).1:Int) - 9) [] 0) (by simp only [vl];omega) (fun w hw=>by simp [uses,vl,two,oneP] at hw)
  exact ⟨h3,h2.trans h4⟩
 split
 ·obtain ⟨h1,h2⟩:=num' 5
  obtain ⟨h3,h4⟩:=h1.putK1 (x:=vl 17 a 0 ((num ops t.s 5).1:Nat) [] 0) (by simp only [vl];omega) (fun w hw=>by rw [one1 17 _ rfl rfl (by omega) (by omega) w hw];exact ha)
  exact ⟨h3,h2.trans h4⟩
 split
 ·exact hM.putK1 (x:=vl 18 a b 0 [] 0) (by simp only [vl];omega) (hab _ rfl rfl rfl)
 split
 ·obtain ⟨h1,h2⟩:=num' 5
  obtain ⟨h3,h4,_⟩:=h1.put1 (x:=vl 19 a b ((num ops t.s 5).1:Nat) [] 0) (by simp only [vl];omega) (fun h=>by simp only [vl] at h;omega) (hab _ rfl rfl rfl) (fun h=>by simp [vl,leaves] at h)
  exact ⟨h3,h2.trans h4⟩
 split
 ·have h1:Mid D pr nx E (on t (one_ ops t.s).2):=hM.at_ _
  have h2:Gw t (on t (one_ ops t.s).2):=Gw.pos t _
  obtain ⟨h3,h4,_⟩:=h1.put1 (x:=vl 20 a b 0 [(one_ ops t.s).1] 0) (by simp only [vl];omega) (fun _=>rfl) (fun w hw=>by
   rcases uses_sub _ w hw with h | h | h
   ·rw [h];exact ha
   ·rw [h];exact hb
   ·have h' : w=(one_ ops t.s).1:=by simpa [vl] using h
    rw [h'];exact one_mem ops hM.ne) (fun h=>by simp [vl,leaves] at h)
  exact ⟨h3,h2.trans h4⟩
 split
 ·obtain ⟨h1,h2,hk,_,_,fs,h5,h6⟩:=hM.state ops
  obtain ⟨h3,h4,_⟩:=h1.put1 (x:=vl 22 a 0 0 [] (stateM ops t.s).1) (by simp only [vl];omega) (fun h=>by simp only [vl] at h;omega) (fun w hw=>by
   have e:w=a:=by simpa [uses,vl,two,oneP] using hw
   show w∈(stateM ops t.s).2.known
   rw [hk,e];exact ha) (fun _=>⟨fs,h5,fun w hw=>by show w∈(stateM ops t.s).2.known;rw [hk];exact h6 w hw⟩)
  exact ⟨h3,h2.trans h4⟩
 split
 ·obtain ⟨h1,h2,hk,_,_,fs,h5,h6⟩:=hM.state ops
  obtain ⟨h3,h4,_⟩:=h1.put1 (x:=vl 23 0 0 0 [] (stateM ops t.s).1) (by simp only [vl];omega) (fun h=>by simp only [vl] at h;omega) (fun w hw=>by simp [uses,vl,two,oneP] at hw) (fun _=>⟨fs,h5,fun w hw=>by show w∈(stateM ops t.s).2.known;rw [hk];exact h6 w hw⟩)
  exact ⟨h3,h2.trans h4⟩
 ·obtain ⟨h1,h2⟩:=num' 2
  have hn:(num ops t.s 2).1<2:=draw_lt _ _ (by omega)
  have hn' : (num ops t.s 2).1=0∨(num ops t.s 2).1=1:=by omega
  obtain ⟨h3,h4⟩:=h1.putK1 (x:=vl (15+(num ops t.s 2).1) a 0 0 [] 0) (by simp only [vl];omega) (fun w hw=>by
   have e:w=a:=by
    rcases hn' with e | e
    ·rw [e] at hw;exact one1 15 _ rfl rfl (by omega) (by omega) w hw
    ·rw [e] at hw;exact one1 16 _ rfl rfl (by omega) (by omega) w hw
   rw [e];exact ha)
  exact ⟨h3,h2.trans h4⟩
theorem Mid.rowStep (hM:Mid D pr nx E t) (ops:List Int):Mid D pr nx E (on t (rowStep ops t.s))∧Gw t (on t (rowStep ops t.s)):=by
 have ha:=one_mem ops hM.ne
 have h1:Mid D pr nx E (on t (one_ ops t.s).2):=hM.at_ _
 have hb:=one_mem ops h1.ne
 have h2:Mid D pr nx E (on t (num ops (one_ ops (one_ ops t.s).2).2 20).2):=hM.at_ _
 obtain ⟨h3,h4⟩:=h2.kind ops (k:=(num ops (one_ ops (one_ ops t.s).2).2 20).1) (a:=(one_ ops t.s).1) (b:=(one_ ops (one_ ops t.s).2).1) ha hb
 exact ⟨h3,(Gw.pos t _).trans h4⟩
theorem Mid.rows (ops:List Int):∀(i:Nat) {t:Dt},Mid D pr nx E t→Mid D pr nx E (on t (rows ops i t.s))∧Gw t (on t (rows ops i t.s))
 | 0,t,hM=>⟨hM,Gw.refl t⟩
 | i + 1, t, hM => by
   unfold Un.rows
   split
   · obtain ⟨h1, h2⟩ := hM.rowStep ops
     obtain ⟨h3, h4⟩ := Mid.rows ops i h1
     exact ⟨h3, h2.trans h4⟩
   · exact ⟨hM, Gw.refl t⟩
theorem Mid.row (hM:Mid D pr nx E t) (ops:List Int):Mid D pr nx E (on t (row ops t.s))∧Gw t (on t (row ops t.s)):=by
 have h1:Mid D pr nx E (on t (num ops t.s 6).2):=hM.at_ _
 obtain ⟨h2,h3⟩:=Mid.rows ops (1+(num ops t.s 6).1) h1
 exact ⟨h2,(Gw.pos t _).trans h3⟩
end
end Go.Proofs.YtiepamfpilhcjaaDoor.Un
namespace Go.Proofs.YtiepamfpilhcjaaDoor.Un
open Go.Proofs.YtiepamfpilhcjaaDoor.Dm
def Lx (t t' : Dt):Prop:=Le t t'∧t.s.vals.length≤t'.s.vals.length
theorem Lx.trans {t t' t'' : Dt} (h1:Lx t t') (h2:Lx t' t''):Lx t t'':=⟨h1.1.trans h2.1 h1.2,Nat.le_trans h1.2 h2.2⟩
theorem Gw.lx {t t' : Dt} (h:Gw t t'):Lx t t':=⟨h.le,h.len⟩
section
variable {D:Nat→Nat} {pr nx:Nat→List Nat} {E E' : Nat→Prop} {t:Dt}
theorem Mid.weaken (hM:Mid D pr nx E t) (h:∀v,E v→E' v):Mid D pr nx E' t:=
 ⟨hM.cat,hM.vok,fun v x hv ho=>let ⟨b,g1,g2,g3⟩:=hM.ph v x hv ho;⟨b,g1,g2,fun hE=>g3 fun e=>hE (h v e)⟩,hM.bk,hM.st,hM.pc,hM.ne,hM.kn⟩
theorem end_le (t:Dt) (fin cond:Nat) (n:List Nat) (state:Nat) (preds:List Nat):Lx t (end_ t fin cond n state preds):=by
 refine ⟨⟨fun w b h=>?_,fun w b _ h=>?_,fun w x h=>⟨x,h,rfl⟩,fun s fs h=>h⟩,Nat.le_refl _⟩
 ·rcases h with ⟨B,h1,h2⟩ | ⟨rfl,h2⟩
  ·exact .inl ⟨B,by show (t.blocks++[_])[b]? = _;rw [List.getElem?_append_left (List.getElem?_eq_some_iff.1 h1).1];exact h1,h2⟩
  ·exact .inl ⟨⟨t.s.cur,fin,cond,n,t.preds,state⟩,List.getElem?_concat_length,h2⟩
 ·rcases h with ⟨B,h1,h2⟩ | ⟨_,h2⟩
  ·have h1' : (t.blocks++[⟨t.s.cur,fin,cond,n,t.preds,state⟩])[b]? = some B:=h1
   by_cases hb:b<t.blocks.length
   ·rw [List.getElem?_append_left hb] at h1'
    exact .inl ⟨B,h1',h2⟩
   ·have hlt:=(List.getElem?_eq_some_iff.1 h1').1
    simp at hlt
    have hb' : b=t.blocks.length:=by omega
    subst hb'
    rw [List.getElem?_concat_length] at h1'
    obtain rfl:=Option.some.inj h1'
    exact .inr ⟨rfl,h2⟩
  ·cases h2
theorem Mid.end_ (hM:Mid D pr nx E t) {fin cond:Nat} {n:List Nat} {state:Nat} {preds:List Nat} (hn:n=nx t.blocks.length) (hp:preds=pr (t.blocks.length+1)) (hf:Fin D t t.blocks.length ⟨t.s.cur,fin,cond,n,t.preds,state⟩) (hk:∀w∈t.s.known,Kn D t (t.blocks.length+1) w) :
  Mid D pr nx E (end_ t fin cond n state preds)∧(Un.end_ t fin cond n state preds).blocks.length=t.blocks.length+1:=by
 have hle:=end_le t fin cond n state preds
 have hlen:(Un.end_ t fin cond n state preds).blocks.length=t.blocks.length+1:=by simp [Un.end_]
 refine ⟨⟨?_,fun v x h=>(hM.vok v x h).mono hle.1 (List.getElem?_eq_some_iff.1 h).1,fun v x h ho=>?_,fun b B h=>?_,fun s fs h=>?_,?_,hM.ne,fun w hw=>?_⟩,hlen⟩
 ·show (t.blocks++[(⟨t.s.cur,fin,cond,n,t.preds,state⟩:Bk)]).flatMap (·.vals)++[]=List.range t.s.vals.length
  rw [List.append_nil,List.flatMap_append,←hM.cat]
  simp
 ·obtain ⟨b,g1,g2,g3⟩:=hM.ph v x h ho
  exact ⟨b,hle.1.ow _ _ g1,g2,fun hE=>⟨(g3 hE).1,fun j w q e1 e2=>((g3 hE).2 j w q e1 e2).mono hle.1⟩⟩
 ·have h1' : (t.blocks++[⟨t.s.cur,fin,cond,n,t.preds,state⟩])[b]? = some B:=h
  by_cases hb:b<t.blocks.length
  ·rw [List.getElem?_append_left hb] at h1'
   exact ⟨(hM.bk b B h1').1,(hM.bk b B h1').2.1,(hM.bk b B h1').2.2.mono hle.1⟩
  ·have hlt:=(List.getElem?_eq_some_iff.1 h1').1
   simp at hlt
   have hb' : b=t.blocks.length:=by omega
   subst hb'
   rw [List.getElem?_concat_length] at h1'
   obtain rfl:=Option.some.inj h1'
   exact ⟨hn,hM.pc,hf.mono hle.1⟩
 ·obtain ⟨g1,g2⟩:=hM.st s fs h
  refine ⟨g1,fun f hf=>?_⟩
  obtain ⟨g3,g4,g5,g6⟩:=g2 f hf
  exact ⟨g3,g4,fun w hw=>(g5 w hw).imp fun a h=>h.mono hle.1,fun w hw=>(g6 w hw).imp fun a h=>h.mono hle.1⟩
 ·rw [hlen];exact hp
 ·rw [hlen];exact (hk w hw).mono hle.1
theorem Mid.cut (hM:Mid D pr nx E t) {l:List Nat} (hne:l≠[]) (hk:∃k,t.s.known=l++k):Mid D pr nx E (on t (cut l.length t.s))∧(on t (Un.cut l.length t.s)).s.known=l∧Lx t (on t (Un.cut l.length t.s)):=by
 obtain ⟨k,hk⟩:=hk
 have e:t.s.known.take l.length=l:=by rw [hk];simp
 have h1:=hM.knows (l:=l) (fun w hw=>hM.kn w (by rw [hk];exact List.mem_append_left _ hw)) hne
 have e2:on t (Un.cut l.length t.s) = { t with s:={ t.s with known:=l } }:=by
  unfold on Un.cut
  rw [e]
 rw [e2]
 exact ⟨h1,rfl,⟨⟨fun _ _ h=>h,fun _ _ _ h=>h,fun _ x h=>⟨x,h,rfl⟩,fun _ _ h=>h⟩,Nat.le_refl _⟩⟩
theorem anc1 {D:Nat→Nat} {a b:Nat} (h0:b≠0) (h:D b=a):Anc D a b:= .up h0 (by rw [h];exact .refl _)
theorem phi_ok (hM:Mid D pr nx E t) {args:List Nat} (hc:t.s.cur=[]∨∀w∈t.s.cur,∃y,t.s.vals[w]? = some y∧isHead y.op=true) (h0:t.blocks.length≠0) (hp:¬E t.s.vals.length→Phok D t (pr t.blocks.length) (vl 21 0 0 0 args 0)) :
  Mid D pr nx E (on t (put t.s (vl 21 0 0 0 args 0)))∧Lx t (on t (put t.s (vl 21 0 0 0 args 0)))∧Kn D (on t (put t.s (vl 21 0 0 0 args 0))) t.blocks.length t.s.vals.length∧Ow (on t (put t.s (vl 21 0 0 0 args 0))) t.s.vals.length t.blocks.length:=by
 obtain ⟨h1,h2⟩:=hM.put (x:=vl 21 0 0 0 args 0) (by simp [vl]) (fun h=>by simp [vl] at h) (fun h=>by simp [vl] at h) (fun h=>absurd rfl h) (fun h=>by simp [vl,leaves] at h) (fun _ w hw=>by
  rcases hc with hc | hc
  ·rw [hc] at hw;cases hw
  ·exact hc w hw) (fun _=>⟨h0,hp⟩)
 exact ⟨h1,⟨put_le t _,by show _≤(t.s.vals++[_]).length;simp⟩,h2 rfl, .inr ⟨rfl,by show t.s.vals.length∈t.s.cur++[t.s.vals.length];simp⟩⟩
theorem fork_ok (hM:Mid D pr nx E t) (ops:List Int) (n0:nx t.blocks.length=[t.blocks.length+1,t.blocks.length+2]) (n1:nx (t.blocks.length+1)=[t.blocks.length+3]) (n2:nx (t.blocks.length+2)=[t.blocks.length+3])
  (p1:pr (t.blocks.length+1)=[t.blocks.length]) (p2:pr (t.blocks.length+2)=[t.blocks.length]) (p3:pr (t.blocks.length+3)=[t.blocks.length+1,t.blocks.length+2])
  (d1:D (t.blocks.length+1)=t.blocks.length) (d2:D (t.blocks.length+2)=t.blocks.length) (d3:D (t.blocks.length+3)=t.blocks.length) :
  Mid D pr nx E (fork ops t)∧(fork ops t).blocks.length=t.blocks.length+3:=by
 generalize ha:t.blocks.length=a at *
 have hc:=one_mem ops hM.ne
 have hM0:Mid D pr nx E (on t (one_ ops t.s).2):=hM.at_ _
 have x0:Lx t (on t (one_ ops t.s).2):=(Gw.pos t _).lx
 have hk0:(on t (one_ ops t.s).2).s.known=t.s.known:=rfl
 unfold fork
 simp only
 rw [ha]
 generalize hcond:(one_ ops t.s).1=cond at *
 generalize (one_ ops t.s).2=s0 at *
 have e0 : { t with s:=s0 } = on t s0:=rfl
 rw [e0]
 have hb0:(on t s0).blocks.length=a:=ha
 obtain ⟨m1,b1⟩:=hM0.end_ (fin:=2) (cond:=cond) (n:=[a+1,a+2]) (state:=0) (preds:=[a]) (by rw [hb0,n0]) (by rw [hb0,p1]) (.inr (.inl ⟨rfl,rfl,by rw [hb0,←ha];exact (hM.kn cond hc).mono x0.1⟩))
  (fun w hw=>by rw [hb0];exact ((by rw [←ha];exact (hM.kn w (by rw [←hk0];exact hw)).mono x0.1:Kn D (on t s0) a w)).up (anc1 (by omega) d1))
 rw [hb0] at b1
 have x1:=x0.trans (end_le (on t s0) 2 cond [a+1,a+2] 0 [a])
 have hk1:(Un.end_ (on t s0) 2 cond [a+1,a+2] 0 [a]).s.known=t.s.known:=hk0
 generalize Un.end_ (on t s0) 2 cond [a+1,a+2] 0 [a]=t1 at *
 obtain ⟨m2,g2⟩:=m1.row ops
 have x2:=x1.trans g2.lx
 have b2:(on t1 (row ops t1.s)).blocks.length=a+1:=by rw [g2.blocks];exact b1
 have kx:=m2.kn _ (last_mem m2.ne)
 obtain ⟨k2,hk2⟩:=g2.known
 rw [hk1] at hk2
 have eX:(row ops t1.s).known.getLastD 0=(on t1 (row ops t1.s)).s.known.getLastD 0:=rfl
 rw [eX]
 generalize (on t1 (row ops t1.s)).s.known.getLastD 0=x at *
 obtain ⟨m3,hk3,x3'⟩:=m2.cut hM.ne ⟨k2,hk2⟩
 have x3:=x2.trans x3'
 have kx3:=kx.mono x3'.1
 rw [b2] at kx3
 have e3 : { t1 with s:=Un.cut t.s.known.length (row ops t1.s) } = on (on t1 (row ops t1.s)) (Un.cut t.s.known.length (on t1 (row ops t1.s)).s):=rfl
 rw [e3]
 have b3:(on (on t1 (row ops t1.s)) (Un.cut t.s.known.length (on t1 (row ops t1.s)).s)).blocks.length=a+1:=b2
 generalize on (on t1 (row ops t1.s)) (Un.cut t.s.known.length (on t1 (row ops t1.s)).s)=t3 at *
 obtain ⟨m4,b4⟩:=m3.end_ (fin:=1) (cond:=0) (n:=[a+3]) (state:=0) (preds:=[a]) (by rw [b3,n1]) (by rw [b3];exact p2.symm) (.inl ⟨rfl,rfl⟩)
  (fun w hw=>by rw [b3];exact ((by rw [←ha];exact (hM.kn w (by rw [←hk3];exact hw)).mono x3.1:Kn D t3 a w)).up (anc1 (by omega) d2))
 rw [b3] at b4
 have y4:=end_le t3 1 0 [a+3] 0 [a]
 have x4:=x3.trans y4
 have kx4:=kx3.mono y4.1
 have hk4:(Un.end_ t3 1 0 [a+3] 0 [a]).s.known=t.s.known:=hk3
 generalize Un.end_ t3 1 0 [a+3] 0 [a]=t4 at *
 obtain ⟨m5,g5⟩:=m4.row ops
 have x5:=x4.trans g5.lx
 have kx5:=kx4.mono g5.le
 have b5:(on t4 (row ops t4.s)).blocks.length=a+2:=by rw [g5.blocks];exact b4
 have ky:=m5.kn _ (last_mem m5.ne)
 obtain ⟨k5,hk5⟩:=g5.known
 rw [hk4] at hk5
 have eY:(row ops t4.s).known.getLastD 0=(on t4 (row ops t4.s)).s.known.getLastD 0:=rfl
 rw [eY]
 generalize (on t4 (row ops t4.s)).s.known.getLastD 0=y at *
 obtain ⟨m6,hk6,x6'⟩:=m5.cut hM.ne ⟨k5,hk5⟩
 have x6:=x5.trans x6'
 have kx6:=kx5.mono x6'.1
 have ky6:=ky.mono x6'.1
 rw [b5] at ky6
 have e6 : { t4 with s:=Un.cut t.s.known.length (row ops t4.s) } = on (on t4 (row ops t4.s)) (Un.cut t.s.known.length (on t4 (row ops t4.s)).s):=rfl
 rw [e6]
 have b6:(on (on t4 (row ops t4.s)) (Un.cut t.s.known.length (on t4 (row ops t4.s)).s)).blocks.length=a+2:=b5
 generalize on (on t4 (row ops t4.s)) (Un.cut t.s.known.length (on t4 (row ops t4.s)).s)=t6 at *
 obtain ⟨m7,b7⟩:=m6.end_ (fin:=1) (cond:=0) (n:=[a+3]) (state:=0) (preds:=[a+1,a+2]) (by rw [b6,n2]) (by rw [b6];exact p3.symm) (.inl ⟨rfl,rfl⟩)
  (fun w hw=>by rw [b6];exact ((by rw [←ha];exact (hM.kn w (by rw [←hk6];exact hw)).mono x6.1:Kn D t6 a w)).up (anc1 (by omega) d3))
 rw [b6] at b7
 have y7:=end_le t6 1 0 [a+3] 0 [a+1,a+2]
 have kx7:=kx6.mono y7.1
 have ky7:=ky6.mono y7.1
 have hc7:(Un.end_ t6 1 0 [a+3] 0 [a+1,a+2]).s.cur=[]:=rfl
 generalize Un.end_ t6 1 0 [a+3] 0 [a+1,a+2]=t7 at *
 obtain ⟨m8,y8,kn8,_⟩:=phi_ok m7 (args:=[x,y]) (.inl hc7) (by omega) (fun _=>by
  rw [b7,p3]
  refine ⟨rfl,fun j w q h1 h2=>?_⟩
  match j,h1,h2 with
  | 0, h1, h2 =>
    obtain rfl : x = w := by simpa [vl] using h1
    obtain rfl : a + 1 = q := by simpa using h2
    exact kx7
  | 1, h1, h2 =>
    obtain rfl : y = w := by simpa [vl] using h1
    obtain rfl : a + 2 = q := by simpa using h2
    exact ky7
  | j+2,h1,h2=>simp [vl] at h1)
 have m9:=m8.knows (l:=t7.s.known++[t7.s.vals.length]) (fun w hw=>by
  rcases List.mem_append.1 hw with hw | hw
  ·exact m8.kn w hw
  ·simp at hw;subst hw;exact kn8) (by simp)
 obtain ⟨m10,_⟩:=m9.row ops
 exact ⟨m10,b7⟩
theorem exit_ok (hM:Mid D pr nx E t) (ops:List Int) (n0:nx t.blocks.length=[t.blocks.length+1,t.blocks.length+2]) (n1:nx (t.blocks.length+1)=[])
  (p1:pr (t.blocks.length+1)=[t.blocks.length]) (p2:pr (t.blocks.length+2)=[t.blocks.length]) (d1:D (t.blocks.length+1)=t.blocks.length) (d2:D (t.blocks.length+2)=t.blocks.length) :
  Mid D pr nx E (exit_ ops t)∧(exit_ ops t).blocks.length=t.blocks.length+2:=by
 generalize ha:t.blocks.length=a at *
 have hc:=one_mem ops hM.ne
 have hM0:Mid D pr nx E (on t (one_ ops t.s).2):=hM.at_ _
 have x0:Lx t (on t (one_ ops t.s).2):=(Gw.pos t _).lx
 have hk0:(on t (one_ ops t.s).2).s.known=t.s.known:=rfl
 unfold exit_
 simp only
 rw [ha]
 generalize hcond:(one_ ops t.s).1=cond at *
 generalize (one_ ops t.s).2=s0 at *
 have e0 : { t with s:=s0 } = on t s0:=rfl
 rw [e0]
 have hb0:(on t s0).blocks.length=a:=ha
 obtain ⟨m1,b1⟩:=hM0.end_ (fin:=2) (cond:=cond) (n:=[a+1,a+2]) (state:=0) (preds:=[a]) (by rw [hb0,n0]) (by rw [hb0,p1]) (.inr (.inl ⟨rfl,rfl,by rw [hb0,←ha];exact (hM.kn cond hc).mono x0.1⟩))
  (fun w hw=>by rw [hb0];exact ((by rw [←ha];exact (hM.kn w (by rw [←hk0];exact hw)).mono x0.1:Kn D (on t s0) a w)).up (anc1 (by omega) d1))
 rw [hb0] at b1
 have x1:=x0.trans (end_le (on t s0) 2 cond [a+1,a+2] 0 [a])
 have hk1:(Un.end_ (on t s0) 2 cond [a+1,a+2] 0 [a]).s.known=t.s.known:=hk0
 generalize Un.end_ (on t s0) 2 cond [a+1,a+2] 0 [a]=t1 at *
 obtain ⟨m2,g2⟩:=m1.row ops
 have x2:=x1.trans g2.lx
 have b2:(on t1 (row ops t1.s)).blocks.length=a+1:=by rw [g2.blocks];exact b1
 obtain ⟨k2,hk2⟩:=g2.known
 rw [hk1] at hk2
 obtain ⟨m3,g3,hk3,_,_,fs,hfs,hin⟩:=m2.state ops
 have x3:=x2.trans g3.lx
 have b3:(on (on t1 (row ops t1.s)) (stateM ops (on t1 (row ops t1.s)).s).2).blocks.length=a+1:=b2
 have eS:stateM ops (row ops t1.s)=stateM ops (on t1 (row ops t1.s)).s:=rfl
 rw [eS]
 have hk3' : (on (on t1 (row ops t1.s)) (stateM ops (on t1 (row ops t1.s)).s).2).s.known=t.s.known++k2:=by
  show (stateM ops (on t1 (row ops t1.s)).s).2.known=_
  rw [hk3,hk2]
 have hkn3:∀w∈frames fs,Kn D (on (on t1 (row ops t1.s)) (stateM ops (on t1 (row ops t1.s)).s).2) (a+1) w:=fun w hw=>by
  rw [←b3]
  refine m3.kn w ?_
  rw [hk3',←hk2]
  exact hin w hw
 obtain ⟨m4,hk4,x4'⟩:=m3.cut hM.ne ⟨k2,hk3'⟩
 have x4:=x3.trans x4'
 generalize (stateM ops (on t1 (row ops t1.s)).s).1=st at *
 have e4 : { t1 with s:=Un.cut t.s.known.length (stateM ops (on t1 (row ops t1.s)).s).2 } = on (on (on t1 (row ops t1.s)) (stateM ops (on t1 (row ops t1.s)).s).2) (Un.cut t.s.known.length (on (on t1 (row ops t1.s)) (stateM ops (on t1 (row ops t1.s)).s).2).s):=rfl
 rw [e4]
 have hfs4:(on (on (on t1 (row ops t1.s)) (stateM ops (on t1 (row ops t1.s)).s).2) (Un.cut t.s.known.length (on (on t1 (row ops t1.s)) (stateM ops (on t1 (row ops t1.s)).s).2).s)).s.states[st]? = some fs:=hfs
 have hkn4:=fun w hw=>(hkn3 w hw).mono x4'.1
 have b4:(on (on (on t1 (row ops t1.s)) (stateM ops (on t1 (row ops t1.s)).s).2) (Un.cut t.s.known.length (on (on t1 (row ops t1.s)) (stateM ops (on t1 (row ops t1.s)).s).2).s)).blocks.length=a+1:=b2
 generalize on (on (on t1 (row ops t1.s)) (stateM ops (on t1 (row ops t1.s)).s).2) (Un.cut t.s.known.length (on (on t1 (row ops t1.s)) (stateM ops (on t1 (row ops t1.s)).s).2).s)=t4 at *
 obtain ⟨m5,b5⟩:=m4.end_ (fin:=3) (cond:=0) (n:=[]) (state:=st) (preds:=[a]) (by rw [b4,n1]) (by rw [b4];exact p2.symm) (.inr (.inr ⟨rfl,rfl,fs,hfs4,fun w hw=>by rw [b4];exact hkn4 w hw⟩))
  (fun w hw=>by rw [b4];exact ((by rw [←ha];exact (hM.kn w (by rw [←hk4];exact hw)).mono x4.1:Kn D t4 a w)).up (anc1 (by omega) d2))
 rw [b4] at b5
 generalize Un.end_ t4 3 0 [] st [a]=t5 at *
 obtain ⟨m6,_⟩:=m5.row ops
 exact ⟨m6,b5⟩
theorem set_le (t:Dt) (v:Nat) (args:List Nat):Lx t (on t (setArgs t.s v args)):=by
 refine ⟨⟨fun _ _ h=>h,fun _ _ _ h=>h,fun w x h=>?_,fun _ _ h=>h⟩,by show _≤(t.s.vals.modify v _).length;rw [List.length_modify];exact Nat.le_refl _⟩
 show ∃y,(t.s.vals.modify v fun x=>{ x with args:=args })[w]? = some y∧y.op=x.op
 rw [List.getElem?_modify,h]
 refine ⟨_,rfl,?_⟩
 split <;> rfl
theorem setArgs_ok (hM:Mid D pr nx E t) {v b:Nat} {x:Vl} {args:List Nat} (hv:t.s.vals[v]? = some x) (ho:x.op=21) (hb:Ow t v b) (h0:b≠0) (hp:args.length=(pr b).length∧∀(j w q:Nat),args[j]? = some w→(pr b)[j]? = some q→Kn D t q w) (hE:∀w,w≠v→¬E' w→¬E w) :
  Mid D pr nx E' (on t (setArgs t.s v args))∧Lx t (on t (setArgs t.s v args)):=by
 have hle:=set_le t v args
 refine ⟨?_,hle⟩
 have hcase:∀(w:Nat) (y:Vl),(on t (setArgs t.s v args)).s.vals[w]? = some y→(w≠v∧t.s.vals[w]? = some y)∨(w=v∧y = { x with args:=args }):=fun w y h=>by
  have h' : (t.s.vals.modify v fun x=>{ x with args:=args })[w]? = some y:=h
  rw [List.getElem?_modify] at h'
  by_cases hw:v=w
  ·subst hw
   rw [hv] at h'
   simp at h'
   exact .inr ⟨rfl,h'.symm⟩
  ·cases hx:t.s.vals[w]? with
   | none=>rw [hx] at h';simp at h'
   | some z =>
     rw [hx] at h'
     simp [hw] at h'
     exact .inl ⟨fun e => hw e.symm, by rw [h']⟩
 have hvlt:=(List.getElem?_eq_some_iff.1 hv).1
 refine ⟨by show t.blocks.flatMap (fun B:Bk=>B.vals)++t.s.cur=List.range (t.s.vals.modify v _).length;rw [List.length_modify];exact hM.cat,fun w y h=>?_,fun w y h hop=>?_,fun c B h=>⟨(hM.bk c B h).1,(hM.bk c B h).2.1,(hM.bk c B h).2.2.mono hle.1⟩,fun s fs h=>?_,hM.pc,hM.ne,fun w hw=>(hM.kn w hw).mono hle.1⟩
 ·rcases hcase w y h with ⟨_,h⟩ | ⟨rfl,rfl⟩
  ·exact (hM.vok w y h).mono hle.1 (List.getElem?_eq_some_iff.1 h).1
  ·have hV:=(hM.vok w x hv).mono hle.1 hvlt
   obtain ⟨c,g1,_,_,g4⟩:=hV.own
   refine ⟨hV.op,fun h=>?_,fun h=>?_,c,g1,fun h=>absurd ho h,fun h=>?_,g4⟩
   ·have h' : x.op=20:=h
    omega
   ·have h' : x.op=1:=h
    omega
   ·have h' : leaves x.op=true:=h
    rw [ho] at h'
    cases h'
 ·rcases hcase w y h with ⟨hne,h⟩ | ⟨rfl,rfl⟩
  ·obtain ⟨c,g1,g2,g3⟩:=hM.ph w y h hop
   exact ⟨c,g1,g2,fun hE'=>⟨(g3 (hE w hne hE')).1,fun j u q e1 e2=>((g3 (hE w hne hE')).2 j u q e1 e2).mono hle.1⟩⟩
  ·exact ⟨b,hb,h0,fun _=>⟨hp.1,fun j u q e1 e2=>(hp.2 j u q e1 e2).mono hle.1⟩⟩
 ·obtain ⟨g1,g2⟩:=hM.st s fs h
  refine ⟨g1,fun f hf=>?_⟩
  obtain ⟨g3,g4,g5,g6⟩:=g2 f hf
  exact ⟨g3,g4,fun w hw=>(g5 w hw).imp fun a h=>h.mono hle.1,fun w hw=>(g6 w hw).imp fun a h=>h.mono hle.1⟩
theorem two_parts {P:Nat→Nat→Prop} {x y q r:Nat} (h1:P q x) (h2:P r y):([x,y]:List Nat).length=([q,r]:List Nat).length∧∀(j w p:Nat),([x,y]:List Nat)[j]? = some w→([q,r]:List Nat)[j]? = some p→P p w:=by
 refine ⟨rfl,fun j w p e1 e2=>?_⟩
 match j,e1,e2 with
 | 0, e1, e2 =>
   obtain rfl : x = w := by simpa using e1
   obtain rfl : q = p := by simpa using e2
   exact h1
 | 1, e1, e2 =>
   obtain rfl : y = w := by simpa using e1
   obtain rfl : r = p := by simpa using e2
   exact h2
 | j+2,e1,e2=>simp at e1
structure Hd (D:Nat→Nat) (t t2:Dt) (p f g less a:Nat):Prop where
 lx:Lx t t2
 blocks:t2.blocks.length=a+2
 kf:Kn D t2 a f
 kg:Kn D t2 a g
 kl:Kn D t2 (a+1) less
 op:Ow t2 p (a+1)
 oq:Ow t2 (p+1) (a+1)
 vp:∃x,t2.s.vals[p]? = some x∧x.op=21
 vq:∃x,t2.s.vals[p+1]? = some x∧x.op=21
 kn:∀w∈t2.s.known,Kn D t2 (a+1) w
end
end Go.Proofs.YtiepamfpilhcjaaDoor.Un
namespace Go.Proofs.YtiepamfpilhcjaaDoor.Un
open Go.Proofs.YtiepamfpilhcjaaDoor.Dm
section
variable {D:Nat→Nat} {pr nx:Nat→List Nat} {E E' : Nat→Prop} {t:Dt}
set_option maxHeartbeats 2000000 in
theorem loop_ok (hM:Mid D pr nx E t) (ops:List Int) (n0:nx t.blocks.length=[t.blocks.length+1]) (n1:nx (t.blocks.length+1)=[t.blocks.length+2,t.blocks.length+3]) (n2:nx (t.blocks.length+2)=[t.blocks.length+1])
  (p1:pr (t.blocks.length+1)=[t.blocks.length,t.blocks.length+2]) (p2:pr (t.blocks.length+2)=[t.blocks.length+1]) (p3:pr (t.blocks.length+3)=[t.blocks.length+1])
  (d1:D (t.blocks.length+1)=t.blocks.length) (d2:D (t.blocks.length+2)=t.blocks.length+1) (d3:D (t.blocks.length+3)=t.blocks.length+1) :
  Mid D pr nx E (loop ops t)∧(loop ops t).blocks.length=t.blocks.length+3:=by
 generalize ha:t.blocks.length=a at *
 have hf:=one_mem ops hM.ne
 have hM0:Mid D pr nx E (on t (one_ ops t.s).2):=hM.at_ _
 have x0:Lx t (on t (one_ ops t.s).2):=(Gw.pos t _).lx
 have hk0:(on t (one_ ops t.s).2).s.known=t.s.known:=rfl
 unfold loop
 simp only
 rw [ha]
 generalize hff:(one_ ops t.s).1=f at *
 generalize (one_ ops t.s).2=s0 at *
 have e0 : { t with s:=s0 } = on t s0:=rfl
 rw [e0]
 have hb0:(on t s0).blocks.length=a:=ha
 obtain ⟨m1',b1⟩:=hM0.end_ (fin:=1) (cond:=0) (n:=[a+1]) (state:=0) (preds:=[a,a+2]) (by rw [hb0,n0]) (by rw [hb0,p1]) (.inl ⟨rfl,rfl⟩)
  (fun w hw=>by rw [hb0];exact ((by rw [←ha];exact (hM.kn w (by rw [←hk0];exact hw)).mono x0.1:Kn D (on t s0) a w)).up (anc1 (by omega) d1))
 rw [hb0] at b1
 have x1:=x0.trans (end_le (on t s0) 1 0 [a+1] 0 [a,a+2])
 have hk1:(Un.end_ (on t s0) 1 0 [a+1] 0 [a,a+2]).s.known=t.s.known:=hk0
 have hc1:(Un.end_ (on t s0) 1 0 [a+1] 0 [a,a+2]).s.cur=[]:=rfl
 generalize Un.end_ (on t s0) 1 0 [a+1] 0 [a,a+2]=t1 at *
 generalize hp:t1.s.vals.length=p at *
 have m1:=m1'.weaken (E':=fun v=>E v∨v=p∨v=p+1) fun v h=> .inl h
 obtain ⟨m2,y2,_,op2⟩:=phi_ok m1 (args:=[f,0]) (.inl hc1) (by omega) (fun h=>absurd (.inr (.inl hp)) h)
 rw [hp,b1] at op2
 have v2:(on t1 (put t1.s (vl 21 0 0 0 [f,0] 0))).s.vals.length=p+1:=by show (t1.s.vals++[_]).length=_;simp [hp]
 have vp2:∃x,(on t1 (put t1.s (vl 21 0 0 0 [f,0] 0))).s.vals[p]? = some x∧x.op=21:=⟨vl 21 0 0 0 [f,0] 0,by show (t1.s.vals++[_])[p]? = _;rw [←hp];simp,rfl⟩
 have hk2:(on t1 (put t1.s (vl 21 0 0 0 [f,0] 0))).s.known=t.s.known:=hk1
 have hcur2:(on t1 (put t1.s (vl 21 0 0 0 [f,0] 0))).s.cur=[p]:=by show t1.s.cur++[t1.s.vals.length]=_;rw [hc1,hp];rfl
 have b2:(on t1 (put t1.s (vl 21 0 0 0 [f,0] 0))).blocks.length=a+1:=b1
 have x2:=x1.trans y2
 have hg:=one_mem ops m2.ne
 rw [hk2] at hg
 have eG:one_ ops (put t1.s (vl 21 0 0 0 [f,0] 0))=one_ ops (on t1 (put t1.s (vl 21 0 0 0 [f,0] 0))).s:=rfl
 rw [eG]
 have m3:Mid D pr nx (fun v=>E v∨v=p∨v=p+1) (on (on t1 (put t1.s (vl 21 0 0 0 [f,0] 0))) (one_ ops (on t1 (put t1.s (vl 21 0 0 0 [f,0] 0))).s).2):=m2.at_ _
 have g3:Gw (on t1 (put t1.s (vl 21 0 0 0 [f,0] 0))) (on (on t1 (put t1.s (vl 21 0 0 0 [f,0] 0))) (one_ ops (on t1 (put t1.s (vl 21 0 0 0 [f,0] 0))).s).2):=Gw.pos _ _
 have v3:(one_ ops (on t1 (put t1.s (vl 21 0 0 0 [f,0] 0))).s).2.vals.length=p+1:=v2
 have hk3:(one_ ops (on t1 (put t1.s (vl 21 0 0 0 [f,0] 0))).s).2.known=t.s.known:=hk1
 have hcur3:(one_ ops (on t1 (put t1.s (vl 21 0 0 0 [f,0] 0))).s).2.cur=[p]:=hcur2
 have vp3:∃x,(one_ ops (on t1 (put t1.s (vl 21 0 0 0 [f,0] 0))).s).2.vals[p]? = some x∧x.op=21:=vp2
 generalize (one_ ops (on t1 (put t1.s (vl 21 0 0 0 [f,0] 0))).s).1=g at *
 generalize (one_ ops (on t1 (put t1.s (vl 21 0 0 0 [f,0] 0))).s).2=s3 at *
 have x3:Lx t (on t1 s3):=x2.trans g3.lx
 have op3:Ow (on t1 s3) p (a+1):=g3.le.ow _ _ op2
 have m3:Mid D pr nx (fun v=>E v∨v=p∨v=p+1) (on t1 s3):=m3
 have b3:(on t1 s3).blocks.length=a+1:=b1
 obtain ⟨m4,y4,knq,oq4⟩:=phi_ok m3 (args:=[g,p]) (.inr fun w hw=>by
  have hw' : w∈s3.cur:=hw
  rw [hcur3] at hw'
  simp at hw'
  subst hw'
  obtain ⟨x,h1,h2⟩:=vp3
  exact ⟨x,h1,by rw [h2];rfl⟩) (by omega) (fun h=>absurd (.inr (.inr v3)) h)
 have v3' : (on t1 s3).s.vals.length=p+1:=v3
 rw [v3',b3] at knq oq4
 have x4:=x3.trans y4
 have op4:=y4.1.ow _ _ op3
 have vp4:∃x,(on (on t1 s3) (put (on t1 s3).s (vl 21 0 0 0 [g,p] 0))).s.vals[p]? = some x∧x.op=21:=by
  obtain ⟨x,h1,h2⟩:=vp3
  obtain ⟨y,h3,h4⟩:=y4.1.val p x h1
  exact ⟨y,h3,by rw [h4,h2]⟩
 have vq4:∃x,(on (on t1 s3) (put (on t1 s3).s (vl 21 0 0 0 [g,p] 0))).s.vals[p+1]? = some x∧x.op=21:=⟨vl 21 0 0 0 [g,p] 0,by show (s3.vals++[_])[p+1]? = _;rw [←v3];simp,rfl⟩
 have knp:Kn D (on (on t1 s3) (put (on t1 s3).s (vl 21 0 0 0 [g,p] 0))) (a+1) p:=by
  obtain ⟨x,h1,h2⟩:=vp4
  exact ⟨_,x,op4, .refl _,h1,by rw [h2];rfl⟩
 have m5:=m4.knows (l:=t.s.known++[p,p+1]) (fun w hw=>by
  rcases List.mem_append.1 hw with hw | hw
  ·exact m4.kn w (by show w∈s3.known;rw [hk3];exact hw)
  ·have b4:(on (on t1 s3) (put (on t1 s3).s (vl 21 0 0 0 [g,p] 0))).blocks.length=a+1:=b1
   rw [b4]
   simp at hw
   rcases hw with rfl | rfl
   ·exact knp
   ·exact knq) (by simp)
 have e5 : { put s3 (vl 21 0 0 0 [g,p] 0) with known:=(put s3 (vl 21 0 0 0 [g,p] 0)).known++[p,p+1] } = { put s3 (vl 21 0 0 0 [g,p] 0) with known:=t.s.known++[p,p+1] }:=by
  have:(put s3 (vl 21 0 0 0 [g,p] 0)).known=t.s.known:=hk3
  rw [this]
 rw [e5]
 have m5:Mid D pr nx (fun v=>E v∨v=p∨v=p+1) (on t1 { put s3 (vl 21 0 0 0 [g,p] 0) with known:=t.s.known++[p,p+1] }):=m5
 have x5:Lx t (on t1 { put s3 (vl 21 0 0 0 [g,p] 0) with known:=t.s.known++[p,p+1] }):=⟨⟨x4.1.ow,x4.1.back,x4.1.val,x4.1.st⟩,x4.2⟩
 have op5:Ow (on t1 { put s3 (vl 21 0 0 0 [g,p] 0) with known:=t.s.known++[p,p+1] }) p (a+1):=op4
 have oq5:Ow (on t1 { put s3 (vl 21 0 0 0 [g,p] 0) with known:=t.s.known++[p,p+1] }) (p+1) (a+1):=oq4
 have vp5:∃x,(on t1 { put s3 (vl 21 0 0 0 [g,p] 0) with known:=t.s.known++[p,p+1] }).s.vals[p]? = some x∧x.op=21:=vp4
 have vq5:∃x,(on t1 { put s3 (vl 21 0 0 0 [g,p] 0) with known:=t.s.known++[p,p+1] }).s.vals[p+1]? = some x∧x.op=21:=vq4
 have hk5:(on t1 { put s3 (vl 21 0 0 0 [g,p] 0) with known:=t.s.known++[p,p+1] }).s.known=t.s.known++[p,p+1]:=rfl
 clear m4 y4 x4 op4 oq4 vp4 vq4 knq knp m3 m2 y2 g3 op2 op3 vp2 vp3 e5
 generalize hs5:({ put s3 (vl 21 0 0 0 [g,p] 0) with known:=t.s.known++[p,p+1] } : Ds)=s5 at *
 obtain ⟨m6,g6,hk6,_,_,fs,h5,h6⟩:=m5.state ops
 have eS:stateM ops s5=stateM ops (on t1 s5).s:=rfl
 rw [eS]
 obtain ⟨m7,g7,_⟩:=m6.put1 (x:=vl 23 0 0 0 [] (stateM ops (on t1 s5).s).1) (by simp only [vl];omega) (fun h=>by simp only [vl] at h;omega) (fun w hw=>by simp [uses,vl,two,oneP] at hw) (fun _=>⟨fs,h5,fun w hw=>by show w∈(stateM ops (on t1 s5).s).2.known;rw [hk6];exact h6 w hw⟩)
 have g57:=g6.trans g7
 have m7:Mid D pr nx (fun v=>E v∨v=p∨v=p+1) (on t1 (put (stateM ops (on t1 s5).s).2 (vl 23 0 0 0 [] (stateM ops (on t1 s5).s).1))):=m7
 have g57:Gw (on t1 s5) (on t1 (put (stateM ops (on t1 s5).s).2 (vl 23 0 0 0 [] (stateM ops (on t1 s5).s).1))):=g57
 have hk7:(put (stateM ops (on t1 s5).s).2 (vl 23 0 0 0 [] (stateM ops (on t1 s5).s).1)).known=t.s.known++[p,p+1]:=by show (stateM ops (on t1 s5).s).2.known=_;rw [hk6];exact hk5
 generalize put (stateM ops (on t1 s5).s).2 (vl 23 0 0 0 [] (stateM ops (on t1 s5).s).1)=s7 at *
 obtain ⟨m8,g8,kone⟩:=m7.put1 (x:=vl 2 0 0 1 [] 0) (by simp only [vl];omega) (fun h=>by simp only [vl] at h;omega) (fun w hw=>by simp [uses,vl,two,oneP] at hw) (fun h=>by simp [vl,leaves] at h)
 have b8:(on t1 s7).blocks.length=a+1:=b1
 have kone:=kone rfl
 rw [b8] at kone
 have m8:Mid D pr nx (fun v=>E v∨v=p∨v=p+1) (on t1 (put s7 (vl 2 0 0 1 [] 0))):=m8
 have g8:Gw (on t1 s7) (on t1 (put s7 (vl 2 0 0 1 [] 0))):=g8
 have kone:Kn D (on t1 (put s7 (vl 2 0 0 1 [] 0))) (a+1) s7.vals.length:=kone
 have v8:(put s7 (vl 2 0 0 1 [] 0)).vals.length=s7.vals.length+1:=by simp [put]
 have hk8:(put s7 (vl 2 0 0 1 [] 0)).known=t.s.known++[p,p+1]:=hk7
 generalize hone:s7.vals.length=one at *
 generalize put s7 (vl 2 0 0 1 [] 0)=s8 at *
 have b8:(on t1 s8).blocks.length=a+1:=b1
 have hpk:p∈(on t1 s8).s.known:=by show p∈s8.known;rw [hk8];simp
 obtain ⟨m9,kless⟩:=m8.put (x:=vl 4 p one 0 [] 0) (by simp [vl]) (fun h=>by simp [vl] at h) (fun h=>by simp [vl] at h) (fun _ w hw=>by
  have hw' : w=p∨w=one:=by simpa [uses,vl,two] using hw
  rcases hw' with rfl | rfl
  ·exact m8.kn _ hpk
  ·rw [b8];exact kone) (fun h=>by simp [vl,leaves] at h) (fun h=>by simp [vl,isHead] at h) (fun h=>by simp [vl] at h)
 have y9:Lx (on t1 s8) (putT (on t1 s8) (vl 4 p one 0 [] 0)):=⟨put_le _ _,by show _≤(s8.vals++[_]).length;simp [on]⟩
 have kless:=kless rfl
 have m10:=m9.knows (l:=s8.known++[s8.vals.length]) (fun w hw=>by
  rcases List.mem_append.1 hw with hw | hw
  ·exact m9.kn w hw
  ·simp at hw;subst hw;exact kless) (by simp)
 have m10:Mid D pr nx (fun v=>E v∨v=p∨v=p+1) (on t1 (putK s8 (vl 4 p one 0 [] 0))):=m10
 have kless:Kn D (on t1 (putK s8 (vl 4 p one 0 [] 0))) (a+1) (one+1):=by
  rw [←v8,←b8];exact kless
 have y9:Lx (on t1 s8) (on t1 (putK s8 (vl 4 p one 0 [] 0))):=⟨⟨y9.1.ow,y9.1.back,y9.1.val,y9.1.st⟩,y9.2⟩
 have hk10:(putK s8 (vl 4 p one 0 [] 0)).known=t.s.known++[p,p+1]++[s8.vals.length]:=by show s8.known++_=_;rw [hk8]
 have y10:=((g57.lx.trans g8.lx).trans y9)
 have x10:=x5.trans y10
 generalize putK s8 (vl 4 p one 0 [] 0)=s10 at *
 have op10:=y10.1.ow _ _ op5
 have oq10:=y10.1.ow _ _ oq5
 have vp10:∃x,(on t1 s10).s.vals[p]? = some x∧x.op=21:=by
  obtain ⟨x,h1,h2⟩:=vp5
  obtain ⟨y,h3,h4⟩:=y10.1.val p x h1
  exact ⟨y,h3,by rw [h4,h2]⟩
 have vq10:∃x,(on t1 s10).s.vals[p+1]? = some x∧x.op=21:=by
  obtain ⟨x,h1,h2⟩:=vq5
  obtain ⟨y,h3,h4⟩:=y10.1.val (p+1) x h1
  exact ⟨y,h3,by rw [h4,h2]⟩
 clear m9 m8 m7 m6 m5 g57 g6 g7 g8 y9 kone h5 h6 x5 op5 oq5 vp5 vq5
 have e10 : { t1 with s:=s10 } = on t1 s10:=rfl
 rw [e10]
 have b10:(on t1 s10).blocks.length=a+1:=b1
 have kn10:∀w∈s10.known,Kn D (on t1 s10) (a+1) w:=fun w hw=>by rw [←b10];exact m10.kn w hw
 have hpk:p∈s10.known:=by rw [hk10];simp
 obtain ⟨m11,b11⟩:=m10.end_ (fin:=2) (cond:=p) (n:=[a+2,a+3]) (state:=0) (preds:=[a+1]) (by rw [b10,n1]) (by rw [b10];exact p2.symm) (.inr (.inl ⟨rfl,rfl,by rw [b10];exact kn10 p hpk⟩))
  (fun w hw=>by rw [b10];exact (kn10 w hw).up (anc1 (by omega) d2))
 rw [b10] at b11
 have y11:=end_le (on t1 s10) 2 p [a+2,a+3] 0 [a+1]
 have hk11:(Un.end_ (on t1 s10) 2 p [a+2,a+3] 0 [a+1]).s.known=s10.known:=rfl
 generalize Un.end_ (on t1 s10) 2 p [a+2,a+3] 0 [a+1]=t2 at *
 obtain ⟨m12,g12⟩:=m11.row ops
 have y12:=y11.trans g12.lx
 have x12:=x10.trans y12
 have b12:(on t2 (row ops t2.s)).blocks.length=a+2:=by rw [g12.blocks];exact b11
 have kz:=m12.kn _ (last_mem m12.ne)
 rw [b12] at kz
 obtain ⟨k12,hk12⟩:=g12.known
 rw [hk11] at hk12
 have kz:Kn D (on t2 (row ops t2.s)) (a+2) ((row ops t2.s).known.getLastD 0):=kz
 have op12:=y12.1.ow _ _ op10
 have oq12:=y12.1.ow _ _ oq10
 have vp12:∃x,(on t2 (row ops t2.s)).s.vals[p]? = some x∧x.op=21:=by
  obtain ⟨x,h1,h2⟩:=vp10
  obtain ⟨y,h3,h4⟩:=y12.1.val p x h1
  exact ⟨y,h3,by rw [h4,h2]⟩
 have vq12:∃x,(on t2 (row ops t2.s)).s.vals[p+1]? = some x∧x.op=21:=by
  obtain ⟨x,h1,h2⟩:=vq10
  obtain ⟨y,h3,h4⟩:=y12.1.val (p+1) x h1
  exact ⟨y,h3,by rw [h4,h2]⟩
 have kless12:=(kless.mono y12.1).up (anc1 (D:=D) (a:=a+1) (b:=a+2) (by omega) d2)
 have kn12:∀w∈s10.known,Kn D (on t2 (row ops t2.s)) (a+1) w:=fun w hw=>(kn10 w hw).mono y12.1
 have kf12:Kn D (on t2 (row ops t2.s)) a f:=by rw [←ha];exact (hM.kn f hf).mono x12.1
 have kg12:Kn D (on t2 (row ops t2.s)) a g:=by rw [←ha];exact (hM.kn g hg).mono x12.1
 have hk12' : (row ops t2.s).known=s10.known++k12:=hk12
 generalize (row ops t2.s).known.getLastD 0=z at *
 generalize row ops t2.s=s12 at *
 obtain ⟨xp,hxp,hxpo⟩:=vp12
 obtain ⟨m13,y13⟩:=setArgs_ok (E':=fun v=>E v∨v=p+1) m12 hxp hxpo op12 (by omega) (args:=[f,one+1]) (by rw [p1];exact two_parts (P:=fun q w=>Kn D (on t2 s12) q w) kf12 kless12) (fun w hne hE=>by
  rintro (h | h | h)
  ·exact hE (.inl h)
  ·exact hne h
  ·exact hE (.inr h))
 have m13:Mid D pr nx (fun v=>E v∨v=p+1) (on t2 (setArgs s12 p [f,one+1])):=m13
 have y13:Lx (on t2 s12) (on t2 (setArgs s12 p [f,one+1])):=y13
 have hk13:(setArgs s12 p [f,one+1]).known=s10.known++k12:=hk12'
 generalize setArgs s12 p [f,one+1]=s13 at *
 have m14:Mid D pr nx (fun v=>E v∨v=p+1) (on t2 (num ops s13 3).2):=m13.at_ _
 have y14:Lx (on t2 s12) (on t2 (num ops s13 3).2):=y13.trans (Gw.pos (on t2 s13) (draw ops s13.pos 3).2).lx
 have hk14:(num ops s13 3).2.known=s10.known++k12:=hk13
 generalize (num ops s13 3).1=dd at *
 generalize (num ops s13 3).2=s14 at *
 have fin15:∃s15,(if dd=0 then setArgs s14 p [f,z] else s14)=s15∧Mid D pr nx (fun v=>E v∨v=p+1) (on t2 s15)∧Lx (on t2 s12) (on t2 s15)∧s15.known=s10.known++k12:=by
  by_cases hd:dd=0
  ·rw [if_pos hd]
   obtain ⟨xp',hxp',hxpo'⟩:=y14.1.val p xp hxp
   obtain ⟨m,y⟩:=setArgs_ok (E':=fun v=>E v∨v=p+1) m14 hxp' (by rw [hxpo',hxpo]) (y14.1.ow _ _ op12) (by omega) (args:=[f,z]) (by rw [p1];exact two_parts (P:=fun q w=>Kn D (on t2 s14) q w) (kf12.mono y14.1) (kz.mono y14.1)) (fun w _ hE=>hE)
   exact ⟨_,rfl,m,y14.trans y,hk14⟩
  ·rw [if_neg hd]
   exact ⟨_,rfl,m14,y14,hk14⟩
 obtain ⟨s15,e15,m15,y15,hk15⟩:=fin15
 rw [e15]
 obtain ⟨xq,hxq,hxqo⟩:=vq12
 obtain ⟨xq',hxq',hxqo'⟩:=y15.1.val (p+1) xq hxq
 obtain ⟨m16,y16⟩:=setArgs_ok (E':=E) m15 hxq' (by rw [hxqo',hxqo]) (y15.1.ow _ _ oq12) (by omega) (args:=[g,z]) (by rw [p1];exact two_parts (P:=fun q w=>Kn D (on t2 s15) q w) (kg12.mono y15.1) (kz.mono y15.1)) (fun w hne hE=>by
  rintro (h | h)
  ·exact hE h
  ·exact hne h)
 have m16:Mid D pr nx E (on t2 (setArgs s15 (p+1) [g,z])):=m16
 have y16:Lx (on t2 s12) (on t2 (setArgs s15 (p+1) [g,z])):=y15.trans y16
 have hk16:(setArgs s15 (p+1) [g,z]).known=s10.known++k12:=hk15
 generalize setArgs s15 (p+1) [g,z]=s16 at *
 obtain ⟨m17,hk17,y17⟩:=m16.cut m10.ne ⟨k12,hk16⟩
 have m17:Mid D pr nx E (on t2 (Un.cut s10.known.length s16)):=m17
 have y17:Lx (on t2 s12) (on t2 (Un.cut s10.known.length s16)):=y16.trans y17
 have hk17:(on t2 (Un.cut s10.known.length s16)).s.known=s10.known:=hk17
 have e17 : { t2 with s:=Un.cut s10.known.length s16 } = on t2 (Un.cut s10.known.length s16):=rfl
 rw [e17]
 have b17:(on t2 (Un.cut s10.known.length s16)).blocks.length=a+2:=b11
 generalize on t2 (Un.cut s10.known.length s16)=t3 at *
 obtain ⟨m18,b18⟩:=m17.end_ (fin:=1) (cond:=0) (n:=[a+1]) (state:=0) (preds:=[a+1]) (by rw [b17,n2]) (by rw [b17];exact p3.symm) (.inl ⟨rfl,rfl⟩)
  (fun w hw=>by rw [b17];rw [hk17] at hw;exact ((kn12 w hw).mono y17.1).up (anc1 (by omega) d3))
 rw [b17] at b18
 generalize Un.end_ t3 1 0 [a+1] 0 [a+1]=t4 at *
 obtain ⟨m19,_⟩:=m18.row ops
 exact ⟨m19,b18⟩
end
end Go.Proofs.YtiepamfpilhcjaaDoor.Un
