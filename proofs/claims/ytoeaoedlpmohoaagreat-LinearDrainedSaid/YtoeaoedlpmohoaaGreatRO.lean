import Derived.Test.YtoeaoedlpmohoaaGreatRJ
import Derived.Test.YtoeaoedlpmohoaaGreatProg
set_option linter.all false
set_option maxRecDepth 100000
set_option maxHeartbeats 4000000
namespace Go.Hy
open Go.Ab Go.Proofs Tryz
def wf_i64{n:Int}(h:(Lit.int .i64 n).wf=true):i64 n:=by
 simpa [Lit.wf,IntKind.min,IntKind.max,IntKind.signed,IntKind.bits,i64] using h
def kH:qw prog 9 (λs:fA=>[Tx s]) (λs=>s.length<=reachBytes):=
 qw.map (qw.string underlying9) (λs=>s.data.toList) λs h=>⟨h,rfl⟩
def Zc:qw prog 28 (λl:List Int=>[lI l]) (λl=>(∀x∈l,(Lit.int .i64 x).wf=true)/\l.length*8<=reachBytes):=
 qw.slice (sz:=1) (by_:=8) underlying28 au au ar (λ_=>rfl) (qw.int underlying3)
def KP{P:Program}{e:TypeId}{H X:Type}(f:Nat->Option (DataW H×X)):∀(is:List Nat) (xs:List (DataW H×X)),is.mapM f=some xs->DataW.weightsEach P (is.map λ_=>e) (xs.map (·.1))=DataW.weightsAll P e (xs.map (·.1))
 |[],xs,h=>by
  rw[List.mapM_nil]at h;cases h
  rfl
 |i::is,xs,h=>by
  rw[tu]at h;cases h1:f i with
  |none=>rw[h1]at h;cases h
  |some x=>
   rw[h1]at h;cases h2:is.mapM f with
   |none=>rw[h2]at h;cases h
   |some r=>
    rw[h2]at h;cases h
    simp only[rJ,DataW.weightsEach,DataW.weightsAll,KP f is r h2]
def fieldAt(P:Program)(e:TypeId)(i:Nat):Field:={ (default:Field) with type:=e,offset:=i*P.cellsOf e }
def qw.array{P:Program}{t e:TypeId}{n:Nat}{α:Type}{enc:α->List C}{wf:α->Prop}(ht:P.underlying t=some (.array n e))(hc:P.cellsOf t=(((List.range n).map (fieldAt P e)).map λf=>P.cellsOf f.type).sum)(h:jl P ((List.range n).map (fieldAt P e)) 0 enc wf):qw P t enc wf:=by
 intro H eH w fuel cs d ps hr hf;cases fuel with
 |zero=>cases hr
 |succ fuel=>
  unfold DataW.trod at hr;rw[ht]at hr;dsimp only at hr;split at hr
  ·rename_i hl;cases h2:((List.range n).mapM λi=>DataW.trod eH P w 0 (λ_=>true) true fuel e ((cs.drop (i*P.cellsOf e)).take (P.cellsOf e))) with
   |none=>rw[h2]at hr;cases hr
   |some xs=>
    rw[h2]at hr;cases hr
    have h3:(((List.range n).map (fieldAt P e)).mapM λf=>DataW.trod eH P w 0 (λ_=>true) true fuel f.type ((cs.drop f.offset).take (P.cellsOf f.type)))=some xs:=by
     rw[List.mapM_map];exact h2
    have h4:(DataW.weightsEach P (((List.range n).map (fieldAt P e)).map (·.type)) (xs.map (·.1))).all (·<=reachBytes)=true:=by
     have e1:((List.range n).map (fieldAt P e)).map (·.type)=(List.range n).map λ_=>e:=by rw[rY];rfl
     rw[e1,KP _ _ _ h2];simpa [fits,DataW.weights,ht] using hf
    obtain⟨x,h5,h6,h7⟩:=h eH w fuel cs xs h3 h4 (by rw[hl,hc];simp);exact⟨x,h5,aq h6,aq h7⟩
  ·cases hr
def nv.ok(s:nv):Prop:=True
def fx.ok(e:fx):Prop:=True
def Gq(s:fA):Prop:=s.length<=reachBytes
def ic.ok(c:ic):Prop:=c.name.length<=reachBytes/\c.zL.length<=reachBytes
def nu.ok(r:nu):Prop:=r.listen.length<=reachBytes/\r.host.length<=reachBytes/\r.path.length<=reachBytes/\r.zg.length<=reachBytes
def ib.ok(c:ib):Prop:=((∀s∈c.zd,Gq s)/\c.zd.length*16<=reachBytes)/\((∀r∈c.zO,r.ok)/\c.zO.length*64<=reachBytes)/\((∀x∈c.zk,x.ok)/\c.zk.length*56<=reachBytes)
def fG.ok(o:fG):Prop:=o.listen.length<=reachBytes/\o.host.length<=reachBytes/\o.path.length<=reachBytes/\o.config.ok
def ZG:qw prog 4 kN (λ_=>True):=qw.map (qw.bool underlying4) (λb=>b) λb h=>⟨trivial,rfl⟩
def Za:qw prog 77 (λl:List Bool=>[lB l]) (λl=>(∀x∈l,True)/\l.length*1<=reachBytes):=
 qw.slice (sz:=1) (by_:=1) underlying77 au au ar (λ_=>rfl) ZG
def ZH:qw prog 9 qv Gq:=qw.map (qw.string underlying9) (λs=>s.data.toList) λs h=>⟨h,rfl⟩
def Ze:qw prog 22 (λl:List fA=>[lT l]) (λl=>(∀x∈l,Gq x)/\l.length*16<=reachBytes):=
 qw.slice (sz:=1) (by_:=16) underlying22 au au ar (λ_=>rfl) ZH
def XP:qw prog 79 xc ic.ok:=
 qw.map (qw.struct underlying79 au (jl.cons rfl (kH) (jl.cons rfl (qw.int underlying3) (jl.cons rfl (qw.int underlying3) (jl.cons rfl Za (jl.nil _)))))) (λx=>⟨x.1,x.2.1,x.2.2.1,x.2.2.2.1⟩) λx h=>⟨⟨h.1,by have:=h.2.2.2.1.2;rw[ui]at this;exact this⟩,rfl⟩
def Zb:qw prog 24 (λl:List ic=>[lC l]) (λl=>(∀x∈l,x.ok)/\l.length*56<=reachBytes):=
 qw.slice (sz:=4) (by_:=56) underlying24 au au ar (λ_=>rfl) XP
def XQ:qw prog 135 wI nu.ok:=
 qw.map (qw.struct underlying135 au (jl.cons rfl (kH) (jl.cons rfl (kH) (jl.cons rfl (kH) (jl.cons rfl (kH) (jl.nil _)))))) (λx=>⟨x.1,x.2.1,x.2.2.1,x.2.2.2.1⟩) λx h=>⟨⟨h.1,h.2.1,h.2.2.1,h.2.2.2.1⟩,rfl⟩
def Zd:qw prog 23 (λl:List nu=>[lO l]) (λl=>(∀x∈l,x.ok)/\l.length*64<=reachBytes):=
 qw.slice (sz:=4) (by_:=64) underlying23 au au ar (λ_=>rfl) XQ
def NM:qw prog 26 nM ib.ok:=
 qw.map (qw.struct underlying26 au (jl.cons rfl Ze (jl.cons rfl Zd (jl.cons rfl Zb (jl.nil _))))) (λx=>⟨x.1,x.2.1,x.2.2.1⟩) λx h=>⟨⟨h.1,h.2.1,h.2.2.1⟩,rfl⟩
def fW.ok(s:fW):Prop:=s.first.ok/\((∀x∈s.threads,(∀o∈x,o.ok)/\x.length*152<=reachBytes)/\s.threads.length*24<=reachBytes)
end Go.Hy
