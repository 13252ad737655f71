import Derived.Test.YtoeaoedlpmohoaaGreatTJ
import Derived.Test.YtoeaoedlpmohoaaGreatProg
set_option linter.all false
set_option maxRecDepth 100000
set_option maxHeartbeats 4000000
namespace Go.Hy
open Go.Ab Go.Proofs Tryz
def wf_i64{n:Int}(h:(Lit.int .i64 n).wf=true):i64 n:=by
 simpa [Lit.wf,IntKind.min,IntKind.max,IntKind.signed,IntKind.bits,i64] using h
def kZ:qx prog 9 (λs:ft=>[Tx s]) (λs=>s.length<=reachBytes):=
 qx.map (qx.string underlying9) (λs=>s.data.toList) λs h=>⟨h,rfl⟩
def Z1:qx prog 28 (λl:List Int=>[lI l]) (λl=>(∀x∈l,(Lit.int .i64 x).wf=true)/\l.length*8<=reachBytes):=
 qx.slice (sz:=1) (by_:=8) underlying28 au au ar (λ_=>J) (qx.int underlying3)
def Lf{P:Program}{e:TypeId}{H X:Type}(f:Nat->Option (DataW H×X)):∀(is:List Nat) (xs:List (DataW H×X)),is.mapM f=some xs->DataW.weightsEach P (is.map λ_=>e) (xs.map (·.1))=DataW.weightsAll P e (xs.map (·.1))
 |[],xs,h=>by
  rw[List.mapM_nil]at h;cases h
  rfl
 |i::is,xs,h=>by
  rw[sU]at h;cases h1:f i with
  |none=>rw[h1]at h;cases h
  |some x=>
   rw[h1]at h;cases h2:is.mapM f with
   |none=>rw[h2]at h;cases h
   |some r=>
    rw[h2]at h;cases h
    simp only[pN,DataW.weightsEach,DataW.weightsAll,Lf f is r h2]
def fieldAt(P:Program)(e:TypeId)(i:Nat):Field:={(default:Field) with type:=e,offset:=i*P.cellsOf e}
def qx.array{P:Program}{t e:TypeId}{n:Nat}{α:Type}{enc:α->List C}{wf:α->Prop}(ht:P.underlying t=some (.array n e))(hc:P.cellsOf t=(((List.range n).map (fieldAt P e)).map λf=>P.cellsOf f.type).sum)(h:jj P ((List.range n).map (fieldAt P e)) 0 enc wf):qx P t enc wf:=by
 intro H eH w fuel cs d ps hr hf;cases fuel with
 |zero=>cases hr
 |succ fuel=>
  unfold DataW.trod at hr;rw[ht]at hr;dsimp only at hr;split at hr
  ·rename_i hl;cases h2:((List.range n).mapM λi=>DataW.trod eH P w 0 (λ_=>true) true fuel e ((cs.drop (i*P.cellsOf e)).take (P.cellsOf e))) with
   |none=>rw[h2]at hr;cases hr
   |some xs=>
    rw[h2]at hr;cases hr
    have h3:(((List.range n).map (fieldAt P e)).mapM λf=>DataW.trod eH P w 0 (λ_=>true) true fuel f.type ((cs.drop f.offset).take (P.cellsOf f.type)))=some xs:=by
     rw[List.mapM_map];exact h2
    have h4:(DataW.weightsEach P (((List.range n).map (fieldAt P e)).map (·.type)) (xs.map (·.1))).all (·<=reachBytes)=true:=by
     have e1:((List.range n).map (fieldAt P e)).map (·.type)=(List.range n).map λ_=>e:=by rw[rA];rfl
     rw[e1,Lf _ _ _ h2];simpa [fits,DataW.weights,ht] using hf
    obtain⟨x,h5,h6,h7⟩:=h eH w fuel cs xs h3 h4 (by rw[hl,hc];simp);exact⟨x,h5,aq h6,aq h7⟩
  ·cases hr
def oa.ok(s:oa):Prop:=True
def fk.ok(e:fk):Prop:=True
def GF(s:ft):Prop:=s.length<=reachBytes
def fV.ok(c:fV):Prop:=c.name.length<=reachBytes/\c.zR.length<=reachBytes
def nJ.ok(r:nJ):Prop:=r.listen.length<=reachBytes/\r.host.length<=reachBytes/\r.path.length<=reachBytes/\r.zg.length<=reachBytes
def ia.ok(c:ia):Prop:=((∀s∈c.ze,GF s)/\c.ze.length*16<=reachBytes)/\((∀r∈c.zM,r.ok)/\c.zM.length*64<=reachBytes)/\((∀x∈c.zn,x.ok)/\c.zn.length*56<=reachBytes)
def fJ.ok(o:fJ):Prop:=o.listen.length<=reachBytes/\o.host.length<=reachBytes/\o.path.length<=reachBytes/\o.config.ok
def zxX:qx prog 4 wh (λ_=>True):=qx.map (qx.bool underlying4) (λb=>b) λb h=>⟨trivial,rfl⟩
def ZY:qx prog 77 (λl:List Bool=>[lB l]) (λl=>(∀x∈l,True)/\l.length*1<=reachBytes):=
 qx.slice (sz:=1) (by_:=1) underlying77 au au ar (λ_=>J) zxX
def zxY:qx prog 9 qw GF:=qx.map (qx.string underlying9) (λs=>s.data.toList) λs h=>⟨h,rfl⟩
def Z3:qx prog 22 (λl:List ft=>[lT l]) (λl=>(∀x∈l,GF x)/\l.length*16<=reachBytes):=
 qx.slice (sz:=1) (by_:=16) underlying22 au au ar (λ_=>J) zxY
def Ys:qx prog 79 yY fV.ok:=
 qx.map (qx.struct underlying79 au (jj.cons J (kZ) (jj.cons J (qx.int underlying3) (jj.cons J (qx.int underlying3) (jj.cons J ZY (jj.nil _)))))) (λx=>⟨x.1,x.2.1,x.2.2.1,x.2.2.2.1⟩) λx h=>⟨⟨h.1,by have:=h.2.2.2.1.2;rw[ub]at this;exact this⟩,rfl⟩
def Z0:qx prog 24 (λl:List fV=>[lC l]) (λl=>(∀x∈l,x.ok)/\l.length*56<=reachBytes):=
 qx.slice (sz:=4) (by_:=56) underlying24 au au ar (λ_=>J) Ys
def Yt:qx prog 135 wY nJ.ok:=
 qx.map (qx.struct underlying135 au (jj.cons J (kZ) (jj.cons J (kZ) (jj.cons J (kZ) (jj.cons J (kZ) (jj.nil _)))))) (λx=>⟨x.1,x.2.1,x.2.2.1,x.2.2.2.1⟩) λx h=>⟨⟨h.1,h.2.1,h.2.2.1,h.2.2.2.1⟩,rfl⟩
def Z2:qx prog 23 (λl:List nJ=>[lO l]) (λl=>(∀x∈l,x.ok)/\l.length*64<=reachBytes):=
 qx.slice (sz:=4) (by_:=64) underlying23 au au ar (λ_=>J) Yt
def NG:qx prog 26 n8 ia.ok:=
 qx.map (qx.struct underlying26 au (jj.cons J Z3 (jj.cons J Z2 (jj.cons J Z0 (jj.nil _))))) (λx=>⟨x.1,x.2.1,x.2.2.1⟩) λx h=>⟨⟨h.1,h.2.1,h.2.2.1⟩,rfl⟩
def fR.ok(s:fR):Prop:=s.first.ok/\((∀x∈s.threads,(∀o∈x,o.ok)/\x.length*152<=reachBytes)/\s.threads.length*24<=reachBytes)
end Go.Hy
