import Derived.Test.YtamgiodaflkbhaaGreatTJ
import Derived.Test.YtamgiodaflkbhaaGreatProg
set_option linter.all false
set_option maxRecDepth 100000
set_option maxHeartbeats 4000000
namespace Go.Hy
open Go.Ab Go.Proofs Tryz
def wf_i64{n:Int}(h:(Lit.int .i64 n).wf=true):i64 n:=by
 simpa [Lit.wf,IntKind.min,IntKind.max,IntKind.signed,IntKind.bits,i64] using h
def wf_u64{n:Int}(h:(Lit.int .u64 n).wf=true):u64 n:=by
 simpa [Lit.wf,IntKind.min,IntKind.max,IntKind.signed,IntKind.bits,u64] using h
def yx:zO prog 9 (λs:eU=>[Tx s]) (λs=>s.length<=reachBytes):=
 zO.map (zO.string underlying9) (λs=>s.data.toList) λs h=>⟨h,rfl⟩
def arg_int:kH prog 3 I (λn=>(Lit.int .i64 n).wf=true):=zO.W3 underlying3
def Ll:zO prog 28 (λl:List Int=>[lI l]) (λl=>(∀x∈l,(Lit.int .i64 x).wf=true)/\l.length*8<=reachBytes):=
 zO.slice (sz:=1) (by_:=8) underlying28 ak ak aj (λ_=>V) (zO.int underlying3)
def IP{P:Program}{e:TypeId}{H X:Type}(f:Nat->Option (DataW H×X)):∀(is:List Nat) (xs:List (DataW H×X)),is.mapM f=some xs->DataW.weightsEach P (is.map λ_=>e) (xs.map (·.1))=DataW.weightsAll P e (xs.map (·.1))
 |[],xs,h=>by
  rw[List.mapM_nil]at h;cases h
  rfl
 |i::is,xs,h=>by
  rw[s7]at h;cases h1:f i with
  |none=>rw[h1]at h;cases h
  |some x=>
   rw[h1]at h;cases h2:is.mapM f with
   |none=>rw[h2]at h;cases h
   |some r=>
    rw[h2]at h;cases h
    simp only[sM,DataW.weightsEach,DataW.weightsAll,IP f is r h2]
def fieldAt(P:Program)(e:TypeId)(i:Nat):Field:={(default:Field) with type:=e,offset:=i*P.cellsOf e}
def zO.array{P:Program}{t e:TypeId}{n:Nat}{α:Type}{enc:α->List C}{wf:α->Prop}(ht:P.underlying t=some (.array n e))(hc:P.cellsOf t=(((List.range n).map (fieldAt P e)).map λf=>P.cellsOf f.type).sum)(h:zV P ((List.range n).map (fieldAt P e)) 0 enc wf):zO P t enc wf:=by
 intro H eH w fuel cs d ps hr hf;cases fuel with
 |zero=>cases hr
 |succ fuel=>
  unfold DataW.trod at hr;rw[ht]at hr;dsimp only at hr;split at hr
  .rename_i hl;cases h2:((List.range n).mapM λi=>DataW.trod eH P w 0 (λ_=>true) true fuel e ((cs.drop (i*P.cellsOf e)).take (P.cellsOf e))) with
   |none=>rw[h2]at hr;cases hr
   |some xs=>
    rw[h2]at hr;cases hr
    have h3:(((List.range n).map (fieldAt P e)).mapM λf=>DataW.trod eH P w 0 (λ_=>true) true fuel f.type ((cs.drop f.offset).take (P.cellsOf f.type)))=some xs:=by
     rw[List.mapM_map];exact h2
    have h4:(DataW.weightsEach P (((List.range n).map (fieldAt P e)).map (·.type)) (xs.map (·.1))).all (·<=reachBytes)=true:=by
     have e1:((List.range n).map (fieldAt P e)).map (·.type)=(List.range n).map λ_=>e:=by rw[sd];rfl
     rw[e1,IP _ _ _ h2];simpa [fits,DataW.weights,ht] using hf
    obtain⟨x,h5,h6,h7⟩:=h eH w fuel cs xs h3 h4 (by rw[hl,hc];simp);exact⟨x,h5,ai h6,ai h7⟩
  .cases hr
def nT.ok(s:nT):Prop:=True
def e7.ok(e:e7):Prop:=True
def U1:zO prog 53 oX (λ_=>True):=
 zO.map (zO.array underlying53 ak (zV.cons V (zO.int underlying52) (zV.cons V (zO.int underlying52) (zV.cons V (zO.int underlying52) (zV.cons V (zO.int underlying52) (zV.cons V (zO.int underlying52) (zV.cons V (zO.int underlying52) (zV.nil _)))))))) (λx=>⟨x.1,x.2.1,x.2.2.1,x.2.2.2.1,x.2.2.2.2.1,x.2.2.2.2.2.1⟩) λx h=>⟨trivial,rfl⟩
def BM(s:eU):Prop:=s.length<=reachBytes
def fq.ok(c:fq):Prop:=c.name.length<=reachBytes/\c.zL.length<=reachBytes
def mr.ok(r:mr):Prop:=r.listen.length<=reachBytes/\r.host.length<=reachBytes/\r.path.length<=reachBytes/\r.zp.length<=reachBytes
def fC.ok(c:fC):Prop:=((∀s∈c.zc,BM s)/\c.zc.length*16<=reachBytes)/\((∀r∈c.zK,r.ok)/\c.zK.length*64<=reachBytes)/\((∀x∈c.zi,x.ok)/\c.zi.length*56<=reachBytes)
def ft.ok(o:ft):Prop:=o.listen.length<=reachBytes/\o.host.length<=reachBytes/\o.path.length<=reachBytes/\o.config.ok
def Xe:zO prog 4 yt (λ_=>True):=zO.map (zO.bool underlying4) (λb=>b) λb h=>⟨trivial,rfl⟩
def Wq:zO prog 112 (λl:List Bool=>[lB l]) (λl=>(∀x∈l,True)/\l.length*1<=reachBytes):=
 zO.slice (sz:=1) (by_:=1) underlying112 ak ak aj (λ_=>V) Xe
def Xf:zO prog 9 qe BM:=zO.map (zO.string underlying9) (λs=>s.data.toList) λs h=>⟨h,rfl⟩
def Lm:zO prog 22 (λl:List eU=>[lT l]) (λl=>(∀x∈l,BM x)/\l.length*16<=reachBytes):=
 zO.slice (sz:=1) (by_:=16) underlying22 ak ak aj (λ_=>V) Xf
def UX:zO prog 114 jl fq.ok:=
 zO.map (zO.struct underlying114 ak (zV.cons V (yx) (zV.cons V (zO.int underlying3) (zV.cons V (zO.int underlying3) (zV.cons V Wq (zV.nil _)))))) (λx=>⟨x.1,x.2.1,x.2.2.1,x.2.2.2.1⟩) λx h=>⟨⟨h.1,by have:=h.2.2.2.1.2;rw[tv]at this;exact this⟩,rfl⟩
def Lk:zO prog 24 (λl:List fq=>[lC l]) (λl=>(∀x∈l,x.ok)/\l.length*56<=reachBytes):=
 zO.slice (sz:=4) (by_:=56) underlying24 ak ak aj (λ_=>V) UX
def U0:zO prog 116 xy mr.ok:=
 zO.map (zO.struct underlying116 ak (zV.cons V (yx) (zV.cons V (yx) (zV.cons V (yx) (zV.cons V (yx) (zV.nil _)))))) (λx=>⟨x.1,x.2.1,x.2.2.1,x.2.2.2.1⟩) λx h=>⟨⟨h.1,h.2.1,h.2.2.1,h.2.2.2.1⟩,rfl⟩
def Wr:zO prog 23 (λl:List mr=>[lO l]) (λl=>(∀x∈l,x.ok)/\l.length*64<=reachBytes):=
 zO.slice (sz:=4) (by_:=64) underlying23 ak ak aj (λ_=>V) U0
def UW:zO prog 26 iz fC.ok:=
 zO.map (zO.struct underlying26 ak (zV.cons V Lm (zV.cons V Wr (zV.cons V Lk (zV.nil _))))) (λx=>⟨x.1,x.2.1,x.2.2.1⟩) λx h=>⟨⟨h.1,h.2.1,h.2.2.1⟩,rfl⟩
def ia.ok(s:ia):Prop:=s.first.ok/\((∀x∈s.threads,(∀o∈x,o.ok)/\x.length*152<=reachBytes)/\s.threads.length*24<=reachBytes)
end Go.Hy
