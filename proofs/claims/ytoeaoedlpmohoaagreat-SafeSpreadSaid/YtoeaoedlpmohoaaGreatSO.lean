import Derived.Test.YtoeaoedlpmohoaaGreatSJ
import Derived.Test.YtoeaoedlpmohoaaGreatProg
set_option linter.all false
set_option maxRecDepth 100000
set_option maxHeartbeats 4000000
namespace Go.Hy
open Go.Ab Go.Proofs Tryz
def wf_i64{n:Int}(h:(Lit.int .i64 n).wf=true):i64 n:=by
 simpa [Lit.wf,IntKind.min,IntKind.max,IntKind.signed,IntKind.bits,i64] using h
def ED:qH prog 9 (λs:lH=>[Tx s]) (λs=>s.length<=reachBytes):=
 qH.map (qH.string underlying9) (λs=>s.data.toList) λs h=>⟨h,rfl⟩
def XX:qH prog 28 (λl:List Int=>[lI l]) (λl=>(∀x∈l,(Lit.int .i64 x).wf=true)/\l.length*8<=reachBytes):=
 qH.slice (sz:=1) (by_:=8) underlying28 au au ar (λ_=>O) (qH.int underlying3)
def Sg{P:Program}{e:TypeId}{H X:Type}(f:Nat->Option (DataW H×X)):∀(is:List Nat) (xs:List (DataW H×X)),is.mapM f=some xs->DataW.weightsEach P (is.map λ_=>e) (xs.map (·.1))=DataW.weightsAll P e (xs.map (·.1))
 |[],xs,h=>by
  rw[List.mapM_nil]at h;cases h
  rfl
 |i::is,xs,h=>by
  rw[fB]at h;cases h1:f i with
  |none=>rw[h1]at h;cases h
  |some x=>
   rw[h1]at h;cases h2:is.mapM f with
   |none=>rw[h2]at h;cases h
   |some r=>
    rw[h2]at h;cases h
    simp only[se,DataW.weightsEach,DataW.weightsAll,Sg f is r h2]
def fieldAt(P:Program)(e:TypeId)(i:Nat):Field:={(default:Field) with type:=e,offset:=i*P.cellsOf e}
def qH.array{P:Program}{t e:TypeId}{n:Nat}{α:Type}{enc:α->List C}{wf:α->Prop}(ht:P.underlying t=some (.array n e))(hc:P.cellsOf t=(((List.range n).map (fieldAt P e)).map λf=>P.cellsOf f.type).sum)(h:jL P ((List.range n).map (fieldAt P e)) 0 enc wf):qH P t enc wf:=by
 intro H eH w fuel cs d ps hr hf;cases fuel with
 |zero=>cases hr
 |succ fuel=>
  unfold DataW.trod at hr;rw[ht]at hr;dsimp only at hr;split at hr
  ·rename_i hl;cases h2:((List.range n).mapM λi=>DataW.trod eH P w 0 (λ_=>true) true fuel e ((cs.drop (i*P.cellsOf e)).take (P.cellsOf e))) with
   |none=>rw[h2]at hr;cases hr
   |some xs=>
    rw[h2]at hr;cases hr
    have h3:(((List.range n).map (fieldAt P e)).mapM λf=>DataW.trod eH P w 0 (λ_=>true) true fuel f.type ((cs.drop f.offset).take (P.cellsOf f.type)))=some xs:=by
     rw[List.mapM_map];exact h2
    have h4:(DataW.weightsEach P (((List.range n).map (fieldAt P e)).map (·.type)) (xs.map (·.1))).all (·<=reachBytes)=true:=by
     have e1:((List.range n).map (fieldAt P e)).map (·.type)=(List.range n).map λ_=>e:=by rw[sM];rfl
     rw[e1,Sg _ _ _ h2];simpa [fits,DataW.weights,ht] using hf
    obtain⟨x,h5,h6,h7⟩:=h eH w fuel cs xs h3 h4 (by rw[hl,hc];simp);exact⟨x,h5,aq h6,aq h7⟩
  ·cases hr
def BR.ok(s:BR):Prop:=True
def lD.ok(e:lD):Prop:=True
def LQ(s:lH):Prop:=s.length<=reachBytes
def mG.ok(c:mG):Prop:=c.name.length<=reachBytes/\c.zE.length<=reachBytes
def BQ.ok(r:BQ):Prop:=r.listen.length<=reachBytes/\r.host.length<=reachBytes/\r.path.length<=reachBytes/\r.zi.length<=reachBytes
def mL.ok(c:mL):Prop:=((∀s∈c.zf,LQ s)/\c.zf.length*16<=reachBytes)/\((∀r∈c.zS,r.ok)/\c.zS.length*64<=reachBytes)/\((∀x∈c.zm,x.ok)/\c.zm.length*56<=reachBytes)
def lX.ok(o:lX):Prop:=o.listen.length<=reachBytes/\o.host.length<=reachBytes/\o.path.length<=reachBytes/\o.config.ok
def Zi:qH prog 4 kX (λ_=>True):=qH.map (qH.bool underlying4) (λb=>b) λb h=>⟨trivial,rfl⟩
def XV:qH prog 77 (λl:List Bool=>[lB l]) (λl=>(∀x∈l,True)/\l.length*1<=reachBytes):=
 qH.slice (sz:=1) (by_:=1) underlying77 au au ar (λ_=>O) Zi
def Zj:qH prog 9 qG LQ:=qH.map (qH.string underlying9) (λs=>s.data.toList) λs h=>⟨h,rfl⟩
def XZ:qH prog 22 (λl:List lH=>[lT l]) (λl=>(∀x∈l,LQ x)/\l.length*16<=reachBytes):=
 qH.slice (sz:=1) (by_:=16) underlying22 au au ar (λ_=>O) Zj
def zyj:qH prog 79 y6 mG.ok:=
 qH.map (qH.struct underlying79 au (jL.cons O (ED) (jL.cons O (qH.int underlying3) (jL.cons O (qH.int underlying3) (jL.cons O XV (jL.nil _)))))) (λx=>⟨x.1,x.2.1,x.2.2.1,x.2.2.2.1⟩) λx h=>⟨⟨h.1,by have:=h.2.2.2.1.2;rw[fk]at this;exact this⟩,rfl⟩
def XW:qH prog 24 (λl:List mG=>[lC l]) (λl=>(∀x∈l,x.ok)/\l.length*56<=reachBytes):=
 qH.slice (sz:=4) (by_:=56) underlying24 au au ar (λ_=>O) zyj
def zyk:qH prog 135 oA BQ.ok:=
 qH.map (qH.struct underlying135 au (jL.cons O (ED) (jL.cons O (ED) (jL.cons O (ED) (jL.cons O (ED) (jL.nil _)))))) (λx=>⟨x.1,x.2.1,x.2.2.1,x.2.2.2.1⟩) λx h=>⟨⟨h.1,h.2.1,h.2.2.1,h.2.2.2.1⟩,rfl⟩
def XY:qH prog 23 (λl:List BQ=>[lO l]) (λl=>(∀x∈l,x.ok)/\l.length*64<=reachBytes):=
 qH.slice (sz:=4) (by_:=64) underlying23 au au ar (λ_=>O) zyk
def U1:qH prog 26 B7 mL.ok:=
 qH.map (qH.struct underlying26 au (jL.cons O XZ (jL.cons O XY (jL.cons O XW (jL.nil _))))) (λx=>⟨x.1,x.2.1,x.2.2.1⟩) λx h=>⟨⟨h.1,h.2.1,h.2.2.1⟩,rfl⟩
def mb.ok(s:mb):Prop:=s.first.ok/\((∀x∈s.threads,(∀o∈x,o.ok)/\x.length*152<=reachBytes)/\s.threads.length*24<=reachBytes)
end Go.Hy
