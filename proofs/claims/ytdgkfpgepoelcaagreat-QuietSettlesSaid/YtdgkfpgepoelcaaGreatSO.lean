import Derived.Test.YtdgkfpgepoelcaaGreatSJ
import Derived.Test.YtdgkfpgepoelcaaGreatProg
set_option linter.all false
set_option maxRecDepth 100000
set_option maxHeartbeats 4000000
namespace Go.Hy
open Go.Ab Go.Proofs Tryz
def wf_i64{n:Int}(h:(Lit.int .i64 n).wf=true):i64 n:=by
 simpa [Lit.wf,IntKind.min,IntKind.max,IntKind.signed,IntKind.bits,i64] using h
def wf_u64{n:Int}(h:(Lit.int .u64 n).wf=true):u64 n:=by
 simpa [Lit.wf,IntKind.min,IntKind.max,IntKind.signed,IntKind.bits,u64] using h
def wP:zr prog 9 (λs:rK=>[Tx s]) (λs=>s.length<=reachBytes):=
 zr.map (zr.string underlying9) (λs=>s.data.toList) λs h=>⟨h,rfl⟩
def arg_int:kc prog 3 I (λn=>(Lit.int .i64 n).wf=true):=zr.Iy underlying3
def BA:zr prog 22 (λl:List Int=>[lI l]) (λl=>(∀x∈l,(Lit.int .i64 x).wf=true)/\l.length*8<=reachBytes):=
 zr.slice (sz:=1) (by_:=8) underlying22 an an aq (λ_=>V) (zr.int underlying3)
def oJ{P:Program}{e:TypeId}{H X:Type}(f:Nat->Option (DataW H×X)):∀(is:List Nat) (xs:List (DataW H×X)),is.mapM f=some xs->DataW.weightsEach P (is.map λ_=>e) (xs.map (·.1))=DataW.weightsAll P e (xs.map (·.1))
 |[],xs,h=>by
  rw[List.mapM_nil]at h;cases h
  rfl
 |i::is,xs,h=>by
  rw[pb]at h;cases h1:f i with
  |none=>rw[h1]at h;cases h
  |some x=>
   rw[h1]at h;cases h2:is.mapM f with
   |none=>rw[h2]at h;cases h
   |some r=>
    rw[h2]at h;cases h
    simp only[pk,DataW.weightsEach,DataW.weightsAll,oJ f is r h2]
def fieldAt(P:Program)(e:TypeId)(i:Nat):Field:={(default:Field) with type:=e,offset:=i*P.cellsOf e}
def zr.array{P:Program}{t e:TypeId}{n:Nat}{α:Type}{enc:α->List C}{wf:α->Prop}(ht:P.underlying t=some (.array n e))(hc:P.cellsOf t=(((List.range n).map (fieldAt P e)).map λf=>P.cellsOf f.type).sum)(h:zH P ((List.range n).map (fieldAt P e)) 0 enc wf):zr P t enc wf:=by
 intro H eH w fuel cs d ps hr hf;cases fuel with
 |zero=>cases hr
 |succ fuel=>
  unfold DataW.trod at hr;rw[ht]at hr;dsimp only at hr;split at hr
  .rename_i hl;cases h2:((List.range n).mapM λi=>DataW.trod eH P w 0 (λ_=>true) true fuel e ((cs.drop (i*P.cellsOf e)).take (P.cellsOf e))) with
   |none=>rw[h2]at hr;cases hr
   |some xs=>
    rw[h2]at hr;cases hr
    have h3:(((List.range n).map (fieldAt P e)).mapM λf=>DataW.trod eH P w 0 (λ_=>true) true fuel f.type ((cs.drop f.offset).take (P.cellsOf f.type)))=some xs:=by
     rw[List.mapM_map];exact h2
    have h4:(DataW.weightsEach P (((List.range n).map (fieldAt P e)).map (·.type)) (xs.map (·.1))).all (·<=reachBytes)=true:=by
     have e1:((List.range n).map (fieldAt P e)).map (·.type)=(List.range n).map λ_=>e:=by rw[pS];rfl
     rw[e1,oJ _ _ _ h2];simpa [fits,DataW.weights,ht] using hf
    obtain⟨x,h5,h6,h7⟩:=h eH w fuel cs xs h3 h4 (by rw[hl,hc];simp);exact⟨x,h5,ak h6,ak h7⟩
  .cases hr
def eh.ok(s:eh):Prop:=True
def rV.ok(e:rV):Prop:=True
def fu(s:rK):Prop:=s.length<=reachBytes
def r7.ok(c:r7):Prop:=c.name.length<=reachBytes/\c.zG.length<=reachBytes
def uj.ok(r:uj):Prop:=r.listen.length<=reachBytes/\r.host.length<=reachBytes/\r.path.length<=reachBytes/\r.zn.length<=reachBytes
def sj.ok(c:sj):Prop:=((∀s∈c.zc,fu s)/\c.zc.length*16<=reachBytes)/\((∀r∈c.zu,r.ok)/\c.zu.length*64<=reachBytes)/\((∀x∈c.ze,x.ok)/\c.ze.length*56<=reachBytes)
def ss.ok(o:ss):Prop:=o.listen.length<=reachBytes/\o.host.length<=reachBytes/\o.path.length<=reachBytes/\o.config.ok
def IJ:zr prog 4 xe (λ_=>True):=zr.map (zr.bool underlying4) (λb=>b) λb h=>⟨trivial,rfl⟩
def HX:zr prog 116 (λl:List Bool=>[lB l]) (λl=>(∀x∈l,True)/\l.length*1<=reachBytes):=
 zr.slice (sz:=1) (by_:=1) underlying116 an an aq (λ_=>V) IJ
def IK:zr prog 9 jJ fu:=zr.map (zr.string underlying9) (λs=>s.data.toList) λs h=>⟨h,rfl⟩
def HZ:zr prog 36 (λl:List rK=>[lT l]) (λl=>(∀x∈l,fu x)/\l.length*16<=reachBytes):=
 zr.slice (sz:=1) (by_:=16) underlying36 an an aq (λ_=>V) IK
def Hg:zr prog 118 qF r7.ok:=
 zr.map (zr.struct underlying118 an (zH.cons V (wP) (zH.cons V (zr.int underlying3) (zH.cons V (zr.int underlying3) (zH.cons V HX (zH.nil _)))))) (λx=>⟨x.1,x.2.1,x.2.2.1,x.2.2.2.1⟩) λx h=>⟨⟨h.1,by have:=h.2.2.2.1.2;rw[pr]at this;exact this⟩,rfl⟩
def HY:zr prog 38 (λl:List r7=>[lC l]) (λl=>(∀x∈l,x.ok)/\l.length*56<=reachBytes):=
 zr.slice (sz:=4) (by_:=56) underlying38 an an aq (λ_=>V) Hg
def tj.ok(s:tj):Prop:=s.first.ok/\((∀x∈s.threads,(∀o∈x,o.ok)/\x.length*152<=reachBytes)/\s.threads.length*24<=reachBytes)
end Go.Hy
