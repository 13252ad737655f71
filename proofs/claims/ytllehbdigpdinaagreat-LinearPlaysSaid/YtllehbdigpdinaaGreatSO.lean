import Derived.Test.YtllehbdigpdinaaGreatSJ
import Derived.Test.YtllehbdigpdinaaGreatProg
set_option linter.all false
set_option maxRecDepth 100000
set_option maxHeartbeats 4000000
namespace Go.Hy
open Go.Ab Go.Proofs Tryz
def wf_i64{n:Int}(h:(Lit.int .i64 n).wf=true):i64 n:=by
 simpa [Lit.wf,IntKind.min,IntKind.max,IntKind.signed,IntKind.bits,i64] using h
def kN:qp prog 9 (λs:eZ=>[Tx s]) (λs=>s.length<=reachBytes):=
 qp.map (qp.string underlying9) (λs=>s.data.toList) λs h=>⟨h,rfl⟩
def Zp:qp prog 28 (λl:List Int=>[lI l]) (λl=>(∀x∈l,(Lit.int .i64 x).wf=true)/\l.length*8<=reachBytes):=
 qp.slice (sz:=1) (by_:=8) underlying28 au au ar (λ_=>O) (qp.int underlying3)
def KY{P:Program}{e:TypeId}{H X:Type}(f:Nat->Option (DataW H×X)):∀(is:List Nat) (xs:List (DataW H×X)),is.mapM f=some xs->DataW.weightsEach P (is.map λ_=>e) (xs.map (·.1))=DataW.weightsAll P e (xs.map (·.1))
 |[],xs,h=>by
  rw[List.mapM_nil]at h;cases h
  rfl
 |i::is,xs,h=>by
  rw[sV]at h;cases h1:f i with
  |none=>rw[h1]at h;cases h
  |some x=>
   rw[h1]at h;cases h2:is.mapM f with
   |none=>rw[h2]at h;cases h
   |some r=>
    rw[h2]at h;cases h
    simp only[rE,DataW.weightsEach,DataW.weightsAll,KY f is r h2]
def fieldAt(P:Program)(e:TypeId)(i:Nat):Field:={(default:Field) with type:=e,offset:=i*P.cellsOf e}
def qp.array{P:Program}{t e:TypeId}{n:Nat}{α:Type}{enc:α->List C}{wf:α->Prop}(ht:P.underlying t=some (.array n e))(hc:P.cellsOf t=(((List.range n).map (fieldAt P e)).map λf=>P.cellsOf f.type).sum)(h:jg P ((List.range n).map (fieldAt P e)) 0 enc wf):qp P t enc wf:=by
 intro H eH w fuel cs d ps hr hf;cases fuel with
 |zero=>cases hr
 |succ fuel=>
  unfold DataW.trod at hr;rw[ht]at hr;dsimp only at hr;split at hr
  ·rename_i hl;cases h2:((List.range n).mapM λi=>DataW.trod eH P w 0 (λ_=>true) true fuel e ((cs.drop (i*P.cellsOf e)).take (P.cellsOf e))) with
   |none=>rw[h2]at hr;cases hr
   |some xs=>
    rw[h2]at hr;cases hr
    have h3:(((List.range n).map (fieldAt P e)).mapM λf=>DataW.trod eH P w 0 (λ_=>true) true fuel f.type ((cs.drop f.offset).take (P.cellsOf f.type)))=some xs:=by
     rw[List.mapM_map];exact h2
    have h4:(DataW.weightsEach P (((List.range n).map (fieldAt P e)).map (·.type)) (xs.map (·.1))).all (·<=reachBytes)=true:=by
     have e1:((List.range n).map (fieldAt P e)).map (·.type)=(List.range n).map λ_=>e:=by rw[rQ];rfl
     rw[e1,KY _ _ _ h2];simpa [fits,DataW.weights,ht] using hf
    obtain⟨x,h5,h6,h7⟩:=h eH w fuel cs xs h3 h4 (by rw[hl,hc];simp);exact⟨x,h5,aq h6,aq h7⟩
  ·cases hr
def na.ok(s:na):Prop:=True
def eV.ok(e:eV):Prop:=True
def Gl(s:eZ):Prop:=s.length<=reachBytes
def fF.ok(c:fF):Prop:=c.name.length<=reachBytes/\c.zJ.length<=reachBytes
def m9.ok(r:m9):Prop:=r.listen.length<=reachBytes/\r.host.length<=reachBytes/\r.path.length<=reachBytes/\r.zj.length<=reachBytes
def fD.ok(c:fD):Prop:=((∀s∈c.zd,Gl s)/\c.zd.length*16<=reachBytes)/\((∀r∈c.zM,r.ok)/\c.zM.length*64<=reachBytes)/\((∀x∈c.zk,x.ok)/\c.zk.length*56<=reachBytes)
def fh.ok(o:fh):Prop:=o.listen.length<=reachBytes/\o.host.length<=reachBytes/\o.path.length<=reachBytes/\o.config.ok
def zxx:qp prog 4 kU (λ_=>True):=qp.map (qp.bool underlying4) (λb=>b) λb h=>⟨trivial,rfl⟩
def Zn:qp prog 109 (λl:List Bool=>[lB l]) (λl=>(∀x∈l,True)/\l.length*1<=reachBytes):=
 qp.slice (sz:=1) (by_:=1) underlying109 au au ar (λ_=>O) zxx
def zxy:qp prog 9 qn Gl:=qp.map (qp.string underlying9) (λs=>s.data.toList) λs h=>⟨h,rfl⟩
def YS:qp prog 22 (λl:List eZ=>[lT l]) (λl=>(∀x∈l,Gl x)/\l.length*16<=reachBytes):=
 qp.slice (sz:=1) (by_:=16) underlying22 au au ar (λ_=>O) zxy
def YB:qp prog 111 yE fF.ok:=
 qp.map (qp.struct underlying111 au (jg.cons O (kN) (jg.cons O (qp.int underlying3) (jg.cons O (qp.int underlying3) (jg.cons O Zn (jg.nil _)))))) (λx=>⟨x.1,x.2.1,x.2.2.1,x.2.2.2.1⟩) λx h=>⟨⟨h.1,by have:=h.2.2.2.1.2;rw[ua]at this;exact this⟩,rfl⟩
def Zo:qp prog 24 (λl:List fF=>[lC l]) (λl=>(∀x∈l,x.ok)/\l.length*56<=reachBytes):=
 qp.slice (sz:=4) (by_:=56) underlying24 au au ar (λ_=>O) YB
def YC:qp prog 113 wN m9.ok:=
 qp.map (qp.struct underlying113 au (jg.cons O (kN) (jg.cons O (kN) (jg.cons O (kN) (jg.cons O (kN) (jg.nil _)))))) (λx=>⟨x.1,x.2.1,x.2.2.1,x.2.2.2.1⟩) λx h=>⟨⟨h.1,h.2.1,h.2.2.1,h.2.2.2.1⟩,rfl⟩
def YR:qp prog 23 (λl:List m9=>[lO l]) (λl=>(∀x∈l,x.ok)/\l.length*64<=reachBytes):=
 qp.slice (sz:=4) (by_:=64) underlying23 au au ar (λ_=>O) YC
def NP:qp prog 26 nD fD.ok:=
 qp.map (qp.struct underlying26 au (jg.cons O YS (jg.cons O YR (jg.cons O Zo (jg.nil _))))) (λx=>⟨x.1,x.2.1,x.2.2.1⟩) λx h=>⟨⟨h.1,h.2.1,h.2.2.1⟩,rfl⟩
def fy.ok(s:fy):Prop:=s.first.ok/\((∀x∈s.threads,(∀o∈x,o.ok)/\x.length*152<=reachBytes)/\s.threads.length*24<=reachBytes)
end Go.Hy
