import Derived.Test.YtllehbdigpdinaaGreatTR
set_option linter.all false
set_option maxRecDepth 100000
set_option maxHeartbeats 4000000
namespace Go.Run
open Go.Ab Go.Proofs Tryz Go.Gat Go.Nam Go.Hos Go.Con Go.Sna Go.Pla Go.Ply Go.Wor
open Go.Hy hiding encI
def zx3{N K:Nat}{w:Wor}{X:List fM}{t:Nat}{x:fM}{p:fQ}{r:Wor×fD×fG}(gi:GI N K w X)(hx:X[t]?=some x)(hp:x.ops[x.done]?=some p)(hN:N<=100000000)(hK:K<=1099511627776)(hst:vj w (qk x t p)=some r):xb w r.1 (j3 (qk x t p)):=by
 obtain⟨st,tg,hlen,hops,os,hol,hti,hsum⟩:=gi;have fE:=(gh.1 hx).1;obtain⟨o,ho⟩:∃o,os[t]?=some o:=⟨_,gk aw⟩;have ti:=hti t x o hx ho;have ow:∀k,o k<=Has w k:=λk=>by rw[hsum k];exact dX
 have po:=hops x (gu hx) p (gu hp)
 obtain⟨x',hx1,hx2,hx3⟩:∃x',x'.m=qk x t p/\x'.on=true/\TI w t x' o:=by
  cases hon:x.on with
  |true=>exact⟨x,bb,hon,ti⟩
  |false=>exact⟨⟨x.ops,x.done,true,Beg.ji t p x.given,x.given⟩,bb,rfl,Hm st tg aw ti hon hp po hN ow⟩
 obtain⟨s1,s2,s3,r',s4,s5,s6,s7,s8,o',s9,s10⟩:=Ig st tg hx3 hx2 hN hK ow;rw[hx1]at s4 s8;obtain rfl:=gA (s4.symm.trans hst);exact s8
def Cx(T:List (List fQ))(e:fG):Option fQ:=(T[e.zf.toNat]?).bind λl=>l[e.op.toNat]?
def TF(w:Wor)(n:fK):Prop:=0<=zT w.zc n/\∃l,w.zc[(zT w.zc n).toNat]?=some l/\l.drain=true
def U2(w:Wor)(m:fD):Prop:=m.pc<=3\/((m.pc=4\/m.pc=5)/\m.listen=zT w.zc m.op.listen)\/(20<=m.pc/\m.answer.kind=5)
structure DI(T:List (List fQ))(s:Wor.iC):Prop where
 tr:Tr s
 ops:s.2.1.map (·.ops)=T
 dr:∀(τ:Nat) (e:fG) (o:fQ),s.2.2[τ]?=some e->e.done=true->e.answer.kind=10->Cx T e=some o->TF s.1 o.listen
 run:∀(t:Nat) (x:fM),s.2.1[t]?=some x->x.on=true->x.m.op.kind=1->∀(f τ:Nat) (ef e:fG) (o:fQ),s.2.2[f]?=some ef->ef.q9=true->ef.zf=(t:Int)->ef.op=x.done->τ<f->s.2.2[τ]?=some e->e.done=true->e.answer.kind=10->Cx T e=some o->o.listen=x.m.op.listen->U2 s.1 x.m
 fin:∀(κ f τ:Nat) (ec ef e:fG) (oc o:fQ),s.2.2[κ]?=some ec->ec.done=true->Cx T ec=some oc->oc.kind=1->s.2.2[f]?=some ef->ef.q9=true->ef.zf=ec.zf->ef.op=ec.op->τ<f->s.2.2[τ]?=some e->e.done=true->e.answer.kind=10->Cx T e=some o->o.listen=oc.listen->ec.answer.kind=5
end Go.Run
