import Derived.Test.YtamgiodaflkbhaaGreatVJ
import Derived.Test.YtamgiodaflkbhaaGreatProg
set_option linter.all false
set_option maxRecDepth 100000
set_option maxHeartbeats 4000000
namespace Go.Hy
open Go.Ab Go.Proofs Tryz
def wf_i64{n:Int}(h:(Lit.int .i64 n).wf=true):i64 n:=by
 simpa [Lit.wf,IntKind.min,IntKind.max,IntKind.signed,IntKind.bits,i64] using h
def kI:qu prog 9 (λs:fB=>[Tx s]) (λs=>s.length<=reachBytes):=
 qu.map (qu.string underlying9) (λs=>s.data.toList) λs h=>⟨h,rfl⟩
def Xc:qu prog 28 (λl:List Int=>[lI l]) (λl=>(∀x∈l,(Lit.int .i64 x).wf=true)/\l.length*8<=reachBytes):=
 qu.slice (sz:=1) (by_:=8) underlying28 ak ak aj (λ_=>V) (qu.int underlying3)
def Jm{P:Program}{e:TypeId}{H X:Type}(f:Nat->Option (DataW H×X)):∀(is:List Nat) (xs:List (DataW H×X)),is.mapM f=some xs->DataW.weightsEach P (is.map λ_=>e) (xs.map (·.1))=DataW.weightsAll P e (xs.map (·.1))
 |[],xs,h=>by
  rw[List.mapM_nil]at h;cases h
  rfl
 |i::is,xs,h=>by
  rw[um]at h;cases h1:f i with
  |none=>rw[h1]at h;cases h
  |some x=>
   rw[h1]at h;cases h2:is.mapM f with
   |none=>rw[h2]at h;cases h
   |some r=>
    rw[h2]at h;cases h
    simp only[tp,DataW.weightsEach,DataW.weightsAll,Jm f is r h2]
def fieldAt(P:Program)(e:TypeId)(i:Nat):Field:={(default:Field) with type:=e,offset:=i*P.cellsOf e}
def qu.array{P:Program}{t e:TypeId}{n:Nat}{α:Type}{enc:α->List C}{wf:α->Prop}(ht:P.underlying t=some (.array n e))(hc:P.cellsOf t=(((List.range n).map (fieldAt P e)).map λf=>P.cellsOf f.type).sum)(h:jc P ((List.range n).map (fieldAt P e)) 0 enc wf):qu P t enc wf:=by
 intro H eH w fuel cs d ps hr hf;cases fuel with
 |zero=>cases hr
 |succ fuel=>
  unfold DataW.trod at hr;rw[ht]at hr;dsimp only at hr;split at hr
  .rename_i hl;cases h2:((List.range n).mapM λi=>DataW.trod eH P w 0 (λ_=>true) true fuel e ((cs.drop (i*P.cellsOf e)).take (P.cellsOf e))) with
   |none=>rw[h2]at hr;cases hr
   |some xs=>
    rw[h2]at hr;cases hr
    have h3:(((List.range n).map (fieldAt P e)).mapM λf=>DataW.trod eH P w 0 (λ_=>true) true fuel f.type ((cs.drop f.offset).take (P.cellsOf f.type)))=some xs:=by
     rw[List.mapM_map];exact h2
    have h4:(DataW.weightsEach P (((List.range n).map (fieldAt P e)).map (·.type)) (xs.map (·.1))).all (·<=reachBytes)=true:=by
     have e1:((List.range n).map (fieldAt P e)).map (·.type)=(List.range n).map λ_=>e:=by rw[sJ];rfl
     rw[e1,Jm _ _ _ h2];simpa [fits,DataW.weights,ht] using hf
    obtain⟨x,h5,h6,h7⟩:=h eH w fuel cs xs h3 h4 (by rw[hl,hc];simp);exact⟨x,h5,ai h6,ai h7⟩
  .cases hr
def oU.ok(s:oU):Prop:=True
def fF.ok(e:fF):Prop:=True
def EY(s:fB):Prop:=s.length<=reachBytes
def fV.ok(c:fV):Prop:=c.name.length<=reachBytes/\c.zM.length<=reachBytes
def np.ok(r:np):Prop:=r.listen.length<=reachBytes/\r.host.length<=reachBytes/\r.path.length<=reachBytes/\r.zp.length<=reachBytes
def fZ.ok(c:fZ):Prop:=((∀s∈c.zc,EY s)/\c.zc.length*16<=reachBytes)/\((∀r∈c.zK,r.ok)/\c.zK.length*64<=reachBytes)/\((∀x∈c.zj,x.ok)/\c.zj.length*56<=reachBytes)
def fQ.ok(o:fQ):Prop:=o.listen.length<=reachBytes/\o.host.length<=reachBytes/\o.path.length<=reachBytes/\o.config.ok
def Xu:qu prog 4 yK (λ_=>True):=qu.map (qu.bool underlying4) (λb=>b) λb h=>⟨trivial,rfl⟩
def Xa:qu prog 112 (λl:List Bool=>[lB l]) (λl=>(∀x∈l,True)/\l.length*1<=reachBytes):=
 qu.slice (sz:=1) (by_:=1) underlying112 ak ak aj (λ_=>V) Xu
def Xv:qu prog 9 z7 EY:=qu.map (qu.string underlying9) (λs=>s.data.toList) λs h=>⟨h,rfl⟩
def Xe:qu prog 22 (λl:List fB=>[lT l]) (λl=>(∀x∈l,EY x)/\l.length*16<=reachBytes):=
 qu.slice (sz:=1) (by_:=16) underlying22 ak ak aj (λ_=>V) Xv
def VD:qu prog 114 jx fV.ok:=
 qu.map (qu.struct underlying114 ak (jc.cons V (kI) (jc.cons V (qu.int underlying3) (jc.cons V (qu.int underlying3) (jc.cons V Xa (jc.nil _)))))) (λx=>⟨x.1,x.2.1,x.2.2.1,x.2.2.2.1⟩) λx h=>⟨⟨h.1,by have:=h.2.2.2.1.2;rw[uy]at this;exact this⟩,rfl⟩
def Xb:qu prog 24 (λl:List fV=>[lC l]) (λl=>(∀x∈l,x.ok)/\l.length*56<=reachBytes):=
 qu.slice (sz:=4) (by_:=56) underlying24 ak ak aj (λ_=>V) VD
def Vm:qu prog 116 xF np.ok:=
 qu.map (qu.struct underlying116 ak (jc.cons V (kI) (jc.cons V (kI) (jc.cons V (kI) (jc.cons V (kI) (jc.nil _)))))) (λx=>⟨x.1,x.2.1,x.2.2.1,x.2.2.2.1⟩) λx h=>⟨⟨h.1,h.2.1,h.2.2.1,h.2.2.2.1⟩,rfl⟩
def Xd:qu prog 23 (λl:List np=>[lO l]) (λl=>(∀x∈l,x.ok)/\l.length*64<=reachBytes):=
 qu.slice (sz:=4) (by_:=64) underlying23 ak ak aj (λ_=>V) Vm
def LR:qu prog 26 iY fZ.ok:=
 qu.map (qu.struct underlying26 ak (jc.cons V Xe (jc.cons V Xd (jc.cons V Xb (jc.nil _))))) (λx=>⟨x.1,x.2.1,x.2.2.1⟩) λx h=>⟨⟨h.1,h.2.1,h.2.2.1⟩,rfl⟩
def ic.ok(s:ic):Prop:=s.first.ok/\((∀x∈s.threads,(∀o∈x,o.ok)/\x.length*152<=reachBytes)/\s.threads.length*24<=reachBytes)
end Go.Hy
