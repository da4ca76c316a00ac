/- Parts. -/
import Derived.Test.YtpfjdlicdljhaaaDoorM11
set_option maxHeartbeats 4000000
namespace Go.Proofs.YtpfjdlicdljhaaaDoor.Un
open Dm
def Ow(t:Dt)(v b:Nat):Prop:=(∃B,t.blocks[b]? =some B/\v∈B.cR)\/(b=t.blocks.length/\v∈t.s.cur)
def Kn(D:Nat->Nat)(t:Dt)(a w:Nat):Prop:=∃(b:Nat) (x:Vl),Ow t w b/\nL D b a/\t.s.cR[w]? =some x/\BO x.op=true
structure Le (t t':Dt):Prop where
 ow:∀(w b:Nat),Ow t w b->Ow t' w b
 back:∀(w b:Nat),w<t.s.cR.length->Ow t' w b->Ow t w b
 val:∀(w:Nat) (x:Vl),t.s.cR[w]? =some x->∃y,t'.s.cR[w]? =some y/\y.op=x.op
 st:∀(s:Nat) (fs:List Fm),t.s.cZ[s]? =some fs->t'.s.cZ[s]? =some fs
structure ZW (D:Nat->Nat) (t:Dt) (v:Nat) (x:Vl):Prop where
 op:1<=x.op/\x.op<=23
 putAt:x.op=20->x.args.length=1
 par:x.op=1->Ow t v 0/\x.n=(v:Nat)/\v<5
 own:∃b,Ow t v b/\(x.op≠21->∀w∈fu x,w<v/\Kn D t b w)/\(leaves x.op=true->∃fs,t.s.cZ[x.state]? =some fs/\∀w∈ff fs,w<v/\Kn D t b w)/\
  (fm x.op=true->∀w,Ow t w b->w<v->∃y,t.s.cR[w]? =some y/\fm y.op=true)
def YP(D:Nat->Nat)(t:Dt)(a:List Nat)(x:Vl):Prop:=x.args.length=a.length/\∀(j w q:Nat),x.args[j]? =some w->a[j]? =some q->Kn D t q w
def Fin(D:Nat->Nat)(t:Dt)(b:Nat)(B:Bk):Prop:=(B.fin=1/\B.next.length=1)\/(B.fin=2/\B.next.length=2/\Kn D t b B.cond)\/(B.fin=3/\B.next=[]/\∃fs,t.s.cZ[B.state]? =some fs/\∀w∈ff fs,Kn D t b w)
structure Mid (D:Nat->Nat) (pr nx:Nat->List Nat) (E:Nat->Prop) (t:Dt):Prop where
 cat:t.blocks.flatMap (·.cR)++t.s.cur=List.range t.s.cR.length
 vok:∀(v:Nat) (x:Vl),t.s.cR[v]? =some x->ZW D t v x
 ph:∀(v:Nat) (x:Vl),t.s.cR[v]? =some x->x.op=21->∃b,Ow t v b/\b≠0/\(¬E v->YP D t (pr b) x)
 bk:∀(b:Nat) (B:Bk),t.blocks[b]? =some B->B.next=nx b/\B.c8=pr b/\Fin D t b B
 st:∀(s:Nat) (fs:List Fm),t.s.cZ[s]? =some fs->fs.length=1/\∀f∈fs,f.locals.length<=3/\f.stack.length=1/\(∀w∈f.locals,∃a,Kn D t a w)/\∀w∈f.stack,∃a,Kn D t a w
 pc:t.c8=pr t.blocks.length
 ne:t.s.known≠[]
 kn:∀w∈t.s.known,Kn D t t.blocks.length w
section
variable{D:Nat->Nat}{pr nx:Nat->List Nat}{E:Nat->Prop}{t:Dt}
end
def on(t:Dt)(s:Ds):Dt:={t with s:=s}
structure Gw (t t':Dt):Prop where
 blocks:t'.blocks=t.blocks
 c8:t'.c8=t.c8
 known:∃k,t'.s.known=t.s.known++k
 cR:∃e,t'.s.cR=t.s.cR++e
 le:Le t t'
section
variable{D:Nat->Nat}{pr nx:Nat->List Nat}{E:Nat->Prop}{t:Dt}
end
section
variable{D:Nat->Nat}{pr nx:Nat->List Nat}{E:Nat->Prop}{t:Dt}
end
open Dm
def Lx(t t':Dt):Prop:=Le t t'/\t.s.cR.length<=t'.s.cR.length
section
variable{D:Nat->Nat}{pr nx:Nat->List Nat}{E E':Nat->Prop}{t:Dt}
structure Hd (D:Nat->Nat) (t b:Dt) (p f g less a:Nat):Prop where
 lx:Lx t b
 blocks:b.blocks.length=a+2
 kf:Kn D b a f
 kg:Kn D b a g
 kl:Kn D b (a+1) less
 op:Ow b p (a+1)
 oq:Ow b (p+1) (a+1)
 vp:∃x,b.s.cR[p]? =some x/\x.op=21
 vq:∃x,b.s.cR[p+1]? =some x/\x.op=21
 kn:∀w∈b.s.known,Kn D b (a+1) w
end
open Dm
section
variable{D:Nat->Nat}{pr nx:Nat->List Nat}{E E':Nat->Prop}{t:Dt}
end
