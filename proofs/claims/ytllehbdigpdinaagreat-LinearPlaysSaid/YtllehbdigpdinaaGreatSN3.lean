import Derived.Test.YtllehbdigpdinaaGreatSR
set_option linter.all false
set_option maxRecDepth 100000
set_option maxHeartbeats 4000000
namespace Go.Run
open Go.Ab Go.Proofs Tryz Go.Gat Go.Nam Go.Hos Go.Con Go.Sna Go.Pla Go.Ply Go.Wor
open Go.Hy hiding encI
def Dy(v:fc):List Int:=v.zq.map (·.zt)
structure TkK(w w':Wor):Prop where
 le:w.ze.length<=w'.ze.length
 at_:∀(i:Nat) v v',w.ze[i]?=some v->w'.ze[i]?=some v'->Dy v'=Dy v
 new:∀(i:Nat) v',w.ze.length<=i->w'.ze[i]?=some v'->∀t∈Dy v',t=0
def vG{α:Type}{l:List α}{i:Nat}{x:α}(h:l[i]?=some x):l.set i x=l:=by
 obtain⟨h1,h2⟩:=dY.1 h;rw[<-h2];exact u3 h1
section
variable {w:Wor} {m:eR} {v:fc} {g:Gr} {e:En} {r:Wor×eR×eV}
end
def KD(v:Nat)(e:eV):Bool:=e.cell == 6 && e.version == (v:Int)
structure TkI(s:Wor.ij):Prop where
 at_:∀(i:Nat) (v:fc) (t:Int),s.1.ze[i]?=some v->Dy v=[t]->t=(s.2.2.countP (KD i):Nat)
 ev:∀(j:Nat) (e:eV),s.2.2[j]?=some e->e.cell=6->∃(i:Nat) (v:fc),e.version=(i:Int)/\s.1.ze[i]?=some v/\∀t,Dy v=[t]->e.value=((s.2.2.take j).countP (KD i):Nat)
def Zk{N K:Nat}{w:Wor}{X:List fp}{t:Nat}{x:fp}{p:fh}{r:Wor×eR×eV}(gi:GI N K w X)(hx:X[t]?=some x)(hp:x.ops[x.done]?=some p)(hN:N<=100000000)(hK:K<=1099511627776)(h:yl w (jF x t p)=some r):
  ∃v g e,qF w (jF x t p) v g e/\Lc w (jF x t p) v g e/\Nc N K w (jF x t p) Lc EN r:=by
 obtain⟨st,tg,hlen,hops,os,hol,hti,hsum⟩:=gi;have eU:=(dY.1 hx).1;obtain⟨o,ho⟩:∃o,os[t]?=some o:=⟨_,dZ aw⟩;have ti:=hti t x o hx ho;have ow:∀k,o k<=Has w k:=λk=>by rw[hsum k];exact Ek _ t (by rw[gj,ho];rfl)
 have po:=hops x (gh hx) p (gh hp)
 obtain⟨x',hx1,hx2,hx3⟩:∃x',x'.m=jF x t p/\x'.on=true/\TI w t x' o:=by
  cases hon:x.on with
  |true=>exact⟨x,aY,hon,ti⟩
  |false=>exact⟨⟨x.ops,x.done,true,Beg.jY t p x.given,x.given⟩,aY,rfl,M0 st tg aw ti hon hp po hN ow⟩
 obtain⟨s1,s2,s3,_⟩:=Ou st tg hx3 hx2 hN hK ow;obtain⟨L,_,_,hh|⟨_,hh⟩⟩:=hx3.open_
 ·have:=hh.1;rw[hx2]at this;cases this
 ·obtain⟨v,g,e,su,lc⟩:=hh.lc;have tm:=hh.tm;rw[hx1]at su lc s3 tm;obtain⟨r',h1,nc⟩:=Om st tg su tm lc hN hK λk=>pB (s3 k) (ow k)
  rw[h]at h1;cases h1
  exact⟨v,g,e,su,lc,nc⟩
end Go.Run
