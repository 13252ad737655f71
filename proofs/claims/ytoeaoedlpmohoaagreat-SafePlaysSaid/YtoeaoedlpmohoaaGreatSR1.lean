import Derived.Test.YtoeaoedlpmohoaaGreatSR
set_option linter.all false
set_option maxRecDepth 100000
set_option maxHeartbeats 4000000
namespace Go.Run
open Go.Ab Go.Proofs Tryz Go.Gat Go.Nam Go.Hos Go.Con Go.Sna Go.Pla Go.Ply Go.Wor
open Go.Hy hiding encI
def Yj{N K:Nat}{w:Wor}{X:List lW}{t:Nat}{x:lW}{p:lX}{r:Wor×lh×lD}(gi:GI N K w X)(hx:X[t]?=some x)(hp:x.ops[x.done]?=some p)(hN:N<=100000000)(hK:K<=1099511627776)(hst:yu w (z8 x t p)=some r):xn w r.1 (xw (z8 x t p)):=by
 obtain⟨st,tg,hlen,hops,os,hol,hti,hsum⟩:=gi;have lu:=(gZ.1 hx).1;obtain⟨o,ho⟩:∃o,os[t]?=some o:=⟨_,pa aw⟩;have ti:=hti t x o hx ho;have ow:∀k,o k<=Has w k:=λk=>by rw[hsum k];exact gW
 have po:=hops x (pq hx) p (pq hp)
 obtain⟨x',hx1,hx2,hx3⟩:∃x',x'.m=z8 x t p/\x'.on=true/\TI w t x' o:=by
  cases hon:x.on with
  |true=>exact⟨x,aX,hon,ti⟩
  |false=>exact⟨⟨x.ops,x.done,true,Beg.xC t p x.given,x.given⟩,aX,rfl,Kj st tg aw ti hon hp po hN ow⟩
 obtain⟨s1,s2,s3,r',s4,s5,s6,s7,s8,o',s9,s10⟩:=K3 st tg hx3 hx2 hN hK ow;rw[hx1]at s4 s8;obtain rfl:=pz (s4.symm.trans hst);exact s8
def Na{w w':Wor}{o:Key->Nat}(k:xn w w' o)(n:lH):zD w'.zf n=zD w.zf n:=by
 have e:w'.zf.map (·.name)=w.zf.map (·.name):=by
  refine rp λi=>?_
  rw[pj,pj];have l:=k.lY;cases h:w.zf[i]? with
  |none=>
   have:w'.zf[i]?=none:=by rw[rH]at h ⊢;omega
   rw[this]
  |some x=>
   obtain⟨y,hy⟩:∃y,w'.zf[i]?=some y:=⟨_,pa (by have:=(gZ.1 h).1;omega)⟩;rw[hy];show some y.name=some x.name;rw[(k.AK i x y h hy).1]
 have f:∀l:List mj,l.findIdx? (λr=>r.name == n)=(l.map (·.name)).findIdx? (λr=>r == n):=λl=>by rw[sN];rfl
 unfold zD;rw[f,f,e]
def nQ(T:List (List lX))(e:lD):Option lX:=(T[e.zg.toNat]?).bind λl=>l[e.op.toNat]?
def BN(w:Wor)(n:lH):Prop:=0<=zD w.zf n/\∃l,w.zf[(zD w.zf n).toNat]?=some l/\l.drain=true
def zw6{w w':Wor}{o:Key->Nat}{n:lH}(k:xn w w' o)(h:BN w n):BN w' n:=by
 obtain⟨h1,l,h2,h3⟩:=h;unfold BN;rw[Na k];obtain⟨y,hy⟩:∃y,w'.zf[(zD w.zf n).toNat]?=some y:=⟨_,pa (by have:=(gZ.1 h2).1;have:=k.lY;omega)⟩;exact⟨h1,y,hy,(k.AK _ l y h2 hy).2 h3⟩
def zEe(w:Wor)(m:lh):Prop:=m.pc<=3\/((m.pc=4\/m.pc=5)/\m.listen=zD w.zf m.op.listen)\/(20<=m.pc/\m.answer.kind=5)
structure DI(T:List (List lX))(s:Wor.mS):Prop where
 tr:Tr s
 ops:s.2.1.map (·.ops)=T
 dr:∀(τ:Nat) (e:lD) (o:lX),s.2.2[τ]?=some e->e.done=true->e.answer.kind=10->nQ T e=some o->BN s.1 o.listen
 run:∀(t:Nat) (x:lW),s.2.1[t]?=some x->x.on=true->x.m.op.kind=1->∀(f τ:Nat) (ef e:lD) (o:lX),s.2.2[f]?=some ef->ef.qY=true->ef.zg=(t:Int)->ef.op=x.done->τ<f->s.2.2[τ]?=some e->e.done=true->e.answer.kind=10->nQ T e=some o->o.listen=x.m.op.listen->zEe s.1 x.m
 fin:∀(κ f τ:Nat) (ec ef e:lD) (oc o:lX),s.2.2[κ]?=some ec->ec.done=true->nQ T ec=some oc->oc.kind=1->s.2.2[f]?=some ef->ef.qY=true->ef.zg=ec.zg->ef.op=ec.op->τ<f->s.2.2[τ]?=some e->e.done=true->e.answer.kind=10->nQ T e=some o->o.listen=oc.listen->ec.answer.kind=5
end Go.Run
