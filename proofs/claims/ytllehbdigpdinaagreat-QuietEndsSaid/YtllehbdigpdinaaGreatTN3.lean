import Derived.Test.YtllehbdigpdinaaGreatTR
set_option linter.all false
set_option maxRecDepth 100000
set_option maxHeartbeats 4000000
namespace Go.Run
open Go.Ab Go.Proofs Tryz Go.Gat Go.Nam Go.Hos Go.Con Go.Sna Go.Pla Go.Ply Go.Wor
open Go.Hy hiding encI
def Fm(v:fI):List Int:=v.zq.map (·.zx)
structure TkK(w w':Wor):Prop where
 le:w.ze.length<=w'.ze.length
 at_:∀(i:Nat) v v',w.ze[i]?=some v->w'.ze[i]?=some v'->Fm v'=Fm v
 new:∀(i:Nat) v',w.ze.length<=i->w'.ze[i]?=some v'->∀t∈Fm v',t=0
theorem wU{α:Type}{l:List α}{i:Nat}{x:α}(h:l[i]?=some x):l.set i x=l:=by
 obtain⟨h1,h2⟩:=gh.1 h;rw[<-h2];exact eu h1
section
variable {w:Wor} {m:fD} {v:fI} {g:Gr} {e:En} {r:Wor×fD×fG}
end
def Nw(v:Nat)(e:fG):Bool:=e.cell == 6 && e.version == (v:Int)
structure TkI(s:Wor.iC):Prop where
 at_:∀(i:Nat) (v:fI) (t:Int),s.1.ze[i]?=some v->Fm v=[t]->t=(s.2.2.countP (Nw i):Nat)
 ev:∀(j:Nat) (e:fG),s.2.2[j]?=some e->e.cell=6->∃(i:Nat) (v:fI),e.version=(i:Int)/\s.1.ze[i]?=some v/\∀t,Fm v=[t]->e.value=((s.2.2.take j).countP (Nw i):Nat)
def RG{N K:Nat}{w:Wor}{X:List fM}{t:Nat}{x:fM}{p:fQ}{r:Wor×fD×fG}(gi:GI N K w X)(hx:X[t]?=some x)(hp:x.ops[x.done]?=some p)(hN:N<=100000000)(hK:K<=1099511627776)(h:vj w (qk x t p)=some r):
  ∃v g e,qt w (qk x t p) v g e/\Lc w (qk x t p) v g e/\Nc N K w (qk x t p) Lc GF r:=by
 obtain⟨st,tg,hlen,hops,os,hol,hti,hsum⟩:=gi;have fE:=(gh.1 hx).1;obtain⟨o,ho⟩:∃o,os[t]?=some o:=⟨_,gk aw⟩;have ti:=hti t x o hx ho;have ow:∀k,o k<=Has w k:=λk=>by rw[hsum k];exact dX
 have po:=hops x (gu hx) p (gu hp)
 obtain⟨x',hx1,hx2,hx3⟩:∃x',x'.m=qk x t p/\x'.on=true/\TI w t x' o:=by
  cases hon:x.on with
  |true=>exact⟨x,bb,hon,ti⟩
  |false=>exact⟨⟨x.ops,x.done,true,Beg.ji t p x.given,x.given⟩,bb,rfl,Hm st tg aw ti hon hp po hN ow⟩
 obtain⟨s1,s2,s3,_⟩:=Ig st tg hx3 hx2 hN hK ow;obtain⟨L,_,_,hh|⟨_,hh⟩⟩:=hx3.open_
 .have:=hh.1;rw[hx2]at this;cases this
 .obtain⟨v,g,e,su,lc⟩:=hh.lc;have tm:=hh.tm;rw[hx1]at su lc s3 tm;obtain⟨r',h1,nc⟩:=RO st tg su tm lc hN hK λk=>pH (s3 k) (ow k)
  rw[h]at h1;cases h1
  exact⟨v,g,e,su,lc,nc⟩
end Go.Run
