import Derived.Test.YtllehbdigpdinaaGreatTJ
import Derived.Test.YtllehbdigpdinaaGreatProg
set_option linter.all false
set_option maxRecDepth 100000
set_option maxHeartbeats 4000000
namespace Go.Hy
open Go.Ab Go.Proofs Tryz
def wf_i64{n:Int}(h:(Lit.int .i64 n).wf=true):i64 n:=by
 simpa [Lit.wf,IntKind.min,IntKind.max,IntKind.signed,IntKind.bits,i64] using h
def wO:qy prog 9 (λs:fK=>[Tx s]) (λs=>s.length<=reachBytes):=
 qy.map (qy.string underlying9) (λs=>s.data.toList) λs h=>⟨h,rfl⟩
def zyx:qy prog 28 (λl:List Int=>[lI l]) (λl=>(∀x∈l,(Lit.int .i64 x).wf=true)/\l.length*8<=reachBytes):=
 qy.slice (sz:=1) (by_:=8) underlying28 au au ar (λ_=>V) (qy.int underlying3)
def OF{P:Program}{e:TypeId}{H X:Type}(f:Nat->Option (DataW H×X)):∀(is:List Nat) (xs:List (DataW H×X)),is.mapM f=some xs->DataW.weightsEach P (is.map λ_=>e) (xs.map (·.1))=DataW.weightsAll P e (xs.map (·.1))
 |[],xs,h=>by
  rw[List.mapM_nil]at h;cases h
  rfl
 |i::is,xs,h=>by
  rw[tw]at h;cases h1:f i with
  |none=>rw[h1]at h;cases h
  |some x=>
   rw[h1]at h;cases h2:is.mapM f with
   |none=>rw[h2]at h;cases h
   |some r=>
    rw[h2]at h;cases h
    simp only[pP,DataW.weightsEach,DataW.weightsAll,OF f is r h2]
def fieldAt(P:Program)(e:TypeId)(i:Nat):Field:={(default:Field) with type:=e,offset:=i*P.cellsOf e}
def qy.array{P:Program}{t e:TypeId}{n:Nat}{α:Type}{enc:α->List C}{wf:α->Prop}(ht:P.underlying t=some (.array n e))(hc:P.cellsOf t=(((List.range n).map (fieldAt P e)).map λf=>P.cellsOf f.type).sum)(h:jq P ((List.range n).map (fieldAt P e)) 0 enc wf):qy P t enc wf:=by
 intro H eH w fuel cs d ps hr hf;cases fuel with
 |zero=>cases hr
 |succ fuel=>
  unfold DataW.trod at hr;rw[ht]at hr;dsimp only at hr;split at hr
  .rename_i hl;cases h2:((List.range n).mapM λi=>DataW.trod eH P w 0 (λ_=>true) true fuel e ((cs.drop (i*P.cellsOf e)).take (P.cellsOf e))) with
   |none=>rw[h2]at hr;cases hr
   |some xs=>
    rw[h2]at hr;cases hr
    have h3:(((List.range n).map (fieldAt P e)).mapM λf=>DataW.trod eH P w 0 (λ_=>true) true fuel f.type ((cs.drop f.offset).take (P.cellsOf f.type)))=some xs:=by
     rw[List.mapM_map];exact h2
    have h4:(DataW.weightsEach P (((List.range n).map (fieldAt P e)).map (·.type)) (xs.map (·.1))).all (·<=reachBytes)=true:=by
     have e1:((List.range n).map (fieldAt P e)).map (·.type)=(List.range n).map λ_=>e:=by rw[rC];rfl
     rw[e1,OF _ _ _ h2];simpa [fits,DataW.weights,ht] using hf
    obtain⟨x,h5,h6,h7⟩:=h eH w fuel cs xs h3 h4 (by rw[hl,hc];simp);exact⟨x,h5,aq h6,aq h7⟩
  .cases hr
def Ah.ok(s:Ah):Prop:=True
def fG.ok(e:fG):Prop:=True
def IP(s:fK):Prop:=s.length<=reachBytes
def ij.ok(c:ij):Prop:=c.name.length<=reachBytes/\c.zS.length<=reachBytes
def oL.ok(r:oL):Prop:=r.listen.length<=reachBytes/\r.host.length<=reachBytes/\r.path.length<=reachBytes/\r.zg.length<=reachBytes
def iq.ok(c:iq):Prop:=((∀s∈c.zc,IP s)/\c.zc.length*16<=reachBytes)/\((∀r∈c.zO,r.ok)/\c.zO.length*64<=reachBytes)/\((∀x∈c.zo,x.ok)/\c.zo.length*56<=reachBytes)
def fQ.ok(o:fQ):Prop:=o.listen.length<=reachBytes/\o.host.length<=reachBytes/\o.path.length<=reachBytes/\o.config.ok
def Up:qy prog 4 w6 (λ_=>True):=qy.map (qy.bool underlying4) (λb=>b) λb h=>⟨trivial,rfl⟩
def zyv:qy prog 109 (λl:List Bool=>[lB l]) (λl=>(∀x∈l,True)/\l.length*1<=reachBytes):=
 qy.slice (sz:=1) (by_:=1) underlying109 au au ar (λ_=>V) Up
def Uq:qy prog 9 qx IP:=qy.map (qy.string underlying9) (λs=>s.data.toList) λs h=>⟨h,rfl⟩
def zyz:qy prog 22 (λl:List fK=>[lT l]) (λl=>(∀x∈l,IP x)/\l.length*16<=reachBytes):=
 qy.slice (sz:=1) (by_:=16) underlying22 au au ar (λ_=>V) Uq
def zwg:qy prog 111 vo ij.ok:=
 qy.map (qy.struct underlying111 au (jq.cons V (wO) (jq.cons V (qy.int underlying3) (jq.cons V (qy.int underlying3) (jq.cons V zyv (jq.nil _)))))) (λx=>⟨x.1,x.2.1,x.2.2.1,x.2.2.2.1⟩) λx h=>⟨⟨h.1,by have:=h.2.2.2.1.2;rw[sY]at this;exact this⟩,rfl⟩
def zyw:qy prog 24 (λl:List ij=>[lC l]) (λl=>(∀x∈l,x.ok)/\l.length*56<=reachBytes):=
 qy.slice (sz:=4) (by_:=56) underlying24 au au ar (λ_=>V) zwg
def zwh:qy prog 113 lW oL.ok:=
 qy.map (qy.struct underlying113 au (jq.cons V (wO) (jq.cons V (wO) (jq.cons V (wO) (jq.cons V (wO) (jq.nil _)))))) (λx=>⟨x.1,x.2.1,x.2.2.1,x.2.2.2.1⟩) λx h=>⟨⟨h.1,h.2.1,h.2.2.1,h.2.2.2.1⟩,rfl⟩
def zyy:qy prog 23 (λl:List oL=>[lO l]) (λl=>(∀x∈l,x.ok)/\l.length*64<=reachBytes):=
 qy.slice (sz:=4) (by_:=64) underlying23 au au ar (λ_=>V) zwh
def Ru:qy prog 26 Ae iq.ok:=
 qy.map (qy.struct underlying26 au (jq.cons V zyz (jq.cons V zyy (jq.cons V zyw (jq.nil _))))) (λx=>⟨x.1,x.2.1,x.2.2.1⟩) λx h=>⟨⟨h.1,h.2.1,h.2.2.1⟩,rfl⟩
def fU.ok(s:fU):Prop:=s.first.ok/\((∀x∈s.threads,(∀o∈x,o.ok)/\x.length*152<=reachBytes)/\s.threads.length*24<=reachBytes)
end Go.Hy
