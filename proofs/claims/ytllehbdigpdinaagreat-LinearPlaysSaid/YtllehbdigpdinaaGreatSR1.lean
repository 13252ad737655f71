import Derived.Test.YtllehbdigpdinaaGreatSR
set_option linter.all false
set_option maxRecDepth 100000
set_option maxHeartbeats 4000000
namespace Go.Run
open Go.Ab Go.Proofs Tryz Go.Gat Go.Nam Go.Hos Go.Con Go.Sna Go.Pla Go.Ply Go.Wor
open Go.Hy hiding encI
def HF{w w':Wor}{o:Key->Nat}(k:jR w w' o)(n:eZ):zx w'.zd n=zx w.zd n:=by
 have e:w'.zd.map (·.name)=w.zd.map (·.name):=by
  refine pI λi=>?_
  rw[gj,gj];have l:=k.fi;cases h:w.zd[i]? with
  |none=>
   have:w'.zd[i]?=none:=by rw[rh]at h ⊢;omega
   rw[this]
  |some x=>
   obtain⟨y,hy⟩:∃y,w'.zd[i]?=some y:=⟨_,dZ (by have:=(dY.1 h).1;omega)⟩;rw[hy];show some y.name=some x.name;rw[(k.wb i x y h hy).1]
 have f:∀l:List fq,l.findIdx? (λr=>r.name == n)=(l.map (·.name)).findIdx? (λr=>r == n):=λl=>by rw[rI];rfl
 unfold zx;rw[f,f,e]
def iC(T:List (List fh))(e:eV):Option fh:=(T[e.zf.toNat]?).bind λl=>l[e.op.toNat]?
def mZ(w:Wor)(n:eZ):Prop:=0<=zx w.zd n/\∃l,w.zd[(zx w.zd n).toNat]?=some l/\l.drain=true
def XY{w w':Wor}{o:Key->Nat}{n:eZ}(k:jR w w' o)(h:mZ w n):mZ w' n:=by
 obtain⟨h1,l,h2,h3⟩:=h;unfold mZ;rw[HF k];obtain⟨y,hy⟩:∃y,w'.zd[(zx w.zd n).toNat]?=some y:=⟨_,dZ (by have:=(dY.1 h2).1;have:=k.fi;omega)⟩;exact⟨h1,y,hy,(k.wb _ l y h2 hy).2 h3⟩
def zyU(w:Wor)(m:eR):Prop:=m.pc<=3\/((m.pc=4\/m.pc=5)/\m.listen=zx w.zd m.op.listen)\/(20<=m.pc/\m.answer.kind=5)
structure DI(T:List (List fh))(s:Wor.ij):Prop where
 tr:Tr s
 ops:s.2.1.map (·.ops)=T
 dr:∀(τ:Nat) (e:eV) (o:fh),s.2.2[τ]?=some e->e.done=true->e.answer.kind=10->iC T e=some o->mZ s.1 o.listen
 run:∀(t:Nat) (x:fp),s.2.1[t]?=some x->x.on=true->x.m.op.kind=1->∀(f τ:Nat) (ef e:eV) (o:fh),s.2.2[f]?=some ef->ef.qX=true->ef.zf=(t:Int)->ef.op=x.done->τ<f->s.2.2[τ]?=some e->e.done=true->e.answer.kind=10->iC T e=some o->o.listen=x.m.op.listen->zyU s.1 x.m
 fin:∀(κ f τ:Nat) (ec ef e:eV) (oc o:fh),s.2.2[κ]?=some ec->ec.done=true->iC T ec=some oc->oc.kind=1->s.2.2[f]?=some ef->ef.qX=true->ef.zf=ec.zf->ef.op=ec.op->τ<f->s.2.2[τ]?=some e->e.done=true->e.answer.kind=10->iC T e=some o->o.listen=oc.listen->ec.answer.kind=5
end Go.Run
