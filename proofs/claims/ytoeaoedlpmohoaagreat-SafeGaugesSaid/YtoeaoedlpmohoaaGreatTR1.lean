import Derived.Test.YtoeaoedlpmohoaaGreatTR
set_option linter.all false
set_option maxRecDepth 100000
set_option maxHeartbeats 4000000
namespace Go.Run
open Go.Ab Go.Proofs Tryz Go.Gat Go.Nam Go.Hos Go.Con Go.Sna Go.Pla Go.Ply Go.Wor
open Go.Hy hiding encI
def keep_of{N K:Nat}{w:Wor}{X:List fB}{t:Nat}{x:fB}{p:fJ}{r:Wor×fi×fk}(gi:GI N K w X)(hx:X[t]?=some x)(hp:x.ops[x.done]?=some p)(hN:N<=100000000)(hK:K<=1099511627776)(hst:vV w (qv x t p)=some r):xb w r.1 (j3 (qv x t p)):=by
 obtain⟨st,tg,hlen,hops,os,hol,hti,hsum⟩:=gi;have fj:=(dW.1 hx).1;obtain⟨o,ho⟩:∃o,os[t]?=some o:=⟨_,dX aw⟩;have ti:=hti t x o hx ho;have ow:∀k,o k<=Has w k:=λk=>by rw[hsum k];exact C4 _ t (by rw[gf,ho];rfl)
 have po:=hops x (dY hx) p (dY hp)
 obtain⟨x',hx1,hx2,hx3⟩:∃x',x'.m=qv x t p/\x'.on=true/\TI w t x' o:=by
  cases hon:x.on with
  |true=>exact⟨x,aW,hon,ti⟩
  |false=>exact⟨⟨x.ops,x.done,true,Beg.xA t p x.given,x.given⟩,aW,rfl,MJ st tg aw ti hon hp po hN ow⟩
 obtain⟨s1,s2,s3,r',s4,s5,s6,s7,s8,o',s9,s10⟩:=OG st tg hx3 hx2 hN hK ow;rw[hx1]at s4 s8;obtain rfl:=Option.some.inj (s4.symm.trans hst);exact s8
end Go.Run
