import Derived.Test.YtgllekalddijbaaGreatUJ
import Derived.Test.YtgllekalddijbaaGreatProg
set_option linter.unusedVariables false
set_option linter.unusedSimpArgs false
set_option linter.unusedSectionVars false
set_option maxRecDepth 100000
set_option maxHeartbeats 4000000
namespace Go.Hy
open Go.Ab Go.Proofs
theorem wf_i64 {n:Int} (h:(Lit.int .i64 n).wf=true):i64 n:=by
 simpa [Lit.wf,IntKind.min,IntKind.max,IntKind.signed,IntKind.bits,i64] using h
theorem wf_u64 {n:Int} (h:(Lit.int .u64 n).wf=true):u64 n:=by
 simpa [Lit.wf,IntKind.min,IntKind.max,IntKind.signed,IntKind.bits,u64] using h
theorem jI:zi Tryz.prog 9 (fun s:Str=>[Tx s]) (fun s=>s.length<=reachBytes):=
 zi.map (zi.string Tryz.underlying9) (fun s=>s.data.toList) fun s h=>⟨h,rfl⟩
theorem arg_int:OpenArg Tryz.prog 3 I (fun n=>(Lit.int .i64 n).wf=true):=zi.zfO Tryz.underlying3
end Go.Hy
namespace Go.Hy
open Go.Ab Go.Proofs
theorem wo:zi Tryz.prog 22 (fun l:List Int=>[lI l]) (fun l=>(∀ x ∈ l,(Lit.int .i64 x).wf=true)∧l.length * 8<=reachBytes):=
 zi.slice (sz:=1) (by_:=8) Tryz.underlying22 (by kernel_rfl) (by kernel_rfl) (by decide) (fun _=>rfl) (zi.int Tryz.underlying3)
end Go.Hy
namespace Go.Hy
open Go.Ab Go.Proofs
theorem wO {P:Program} {e:TypeId} {H X:Type} (f:Nat->Option (DataW H × X)):∀ (is:List Nat) (xs:List (DataW H × X)),is.mapM f=some xs->DataW.weightsEach P (is.map fun _=>e) (xs.map (·.1))=DataW.weightsAll P e (xs.map (·.1))
 | [],xs,h=>by
  rw [List.mapM_nil] at h
  cases h
  rfl
 | i::is,xs,h=>by
  rw [List.mapM_cons] at h
  cases h1:f i with
  | none=>rw [h1] at h;cases h
  | some x=>
   rw [h1] at h
   cases h2:is.mapM f with
   | none=>rw [h2] at h;cases h
   | some r=>
    rw [h2] at h
    cases h
    simp only [List.map_cons,DataW.weightsEach,DataW.weightsAll,wO f is r h2]
def fieldAt (P:Program) (e:TypeId) (i:Nat):Field:={ (default:Field) with type:=e,offset:=i * P.cellsOf e }
theorem zi.array {P:Program} {t e:TypeId} {n:Nat} {α:Type} {enc:α->List C} {wf:α->Prop} (ht:P.underlying t=some (.array n e)) (hc:P.cellsOf t=(((List.range n).map (fieldAt P e)).map fun f=>P.cellsOf f.type).sum) (h:zo P ((List.range n).map (fieldAt P e)) 0 enc wf):zi P t enc wf:=by
 intro H eH w fuel cs d ps hr hf
 cases fuel with
 | zero=>cases hr
 | succ fuel=>
  unfold DataW.trod at hr
  rw [ht] at hr
  dsimp only at hr
  split at hr
  ·rename_i hl
   cases h2:((List.range n).mapM fun i=>DataW.trod eH P w 0 (fun _=>true) true fuel e ((cs.drop (i * P.cellsOf e)).take (P.cellsOf e))) with
   | none=>rw [h2] at hr;cases hr
   | some xs=>
    rw [h2] at hr
    cases hr
    have h3:(((List.range n).map (fieldAt P e)).mapM fun f=>DataW.trod eH P w 0 (fun _=>true) true fuel f.type ((cs.drop f.offset).take (P.cellsOf f.type)))=some xs:=by
     rw [List.mapM_map];exact h2
    have h4:(DataW.weightsEach P (((List.range n).map (fieldAt P e)).map (·.type)) (xs.map (·.1))).all (·<=reachBytes)=true:=by
     have e1:((List.range n).map (fieldAt P e)).map (·.type)=(List.range n).map fun _=>e:=by rw [List.map_map];rfl
     rw [e1,wO _ _ _ h2]
     simpa [fits,DataW.weights,ht] using hf
    obtain ⟨x,h5,h6,h7⟩:=h eH w fuel cs xs h3 h4 (by rw [hl,hc];simp)
    exact ⟨x,h5,by simpa using h6,by simpa using h7⟩
  ·cases hr
def Six.ok (s:Six):Prop:=True
def Eve.ok (e:Eve):Prop:=True
end Go.Hy
namespace Go.Hy
open Go.Ab Go.Proofs
def zer (s:Str):Prop:=s.length<=reachBytes
def Clu.ok (c:Clu):Prop:=c.name.length<=reachBytes∧c.zT.length<=reachBytes
def Rou.ok (r:Rou):Prop:=r.listen.length<=reachBytes∧r.host.length<=reachBytes∧r.path.length<=reachBytes∧r.zn.length<=reachBytes
def Cfg.ok (c:Cfg):Prop:=((∀ s ∈ c.zc,zer s)∧c.zc.length * 16<=reachBytes)∧((∀ r ∈ c.zI,r.ok)∧c.zI.length * 64<=reachBytes)∧((∀ x ∈ c.zf,x.ok)∧c.zf.length * 56<=reachBytes)
def Opn.ok (o:Opn):Prop:=o.listen.length<=reachBytes∧o.host.length<=reachBytes∧o.path.length<=reachBytes∧o.config.ok
theorem zgD:zi Tryz.prog 4 xV (fun _=>True):=zi.map (zi.bool Tryz.underlying4) (fun b=>b) fun b h=>⟨trivial,rfl⟩
theorem zd6:zi Tryz.prog 146 (fun l:List Bool=>[lB l]) (fun l=>(∀ x ∈ l,True)∧l.length * 1<=reachBytes):=
 zi.slice (sz:=1) (by_:=1) Tryz.underlying146 (by kernel_rfl) (by kernel_rfl) (by decide) (fun _=>rfl) zgD
theorem zlF:zi Tryz.prog 9 w8 zer:=zi.map (zi.string Tryz.underlying9) (fun s=>s.data.toList) fun s h=>⟨h,rfl⟩
theorem zd8:zi Tryz.prog 29 (fun l:List Str=>[lT l]) (fun l=>(∀ x ∈ l,zer x)∧l.length * 16<=reachBytes):=
 zi.slice (sz:=1) (by_:=16) Tryz.underlying29 (by kernel_rfl) (by kernel_rfl) (by decide) (fun _=>rfl) zlF
theorem zb7:zi Tryz.prog 148 jW Clu.ok:=
 zi.map (zi.struct Tryz.underlying148 (by kernel_rfl) (zo.cons rfl (jI) (zo.cons rfl (zi.int Tryz.underlying3) (zo.cons rfl (zi.int Tryz.underlying3) (zo.cons rfl zd6 (zo.nil _)))))) (fun x=>⟨x.1,x.2.1,x.2.2.1,x.2.2.2.1⟩) fun x h=>⟨⟨h.1,by have:=h.2.2.2.1.2;rw [Nat.mul_one] at this;exact this⟩,rfl⟩
theorem zd7:zi Tryz.prog 31 (fun l:List Clu=>[lC l]) (fun l=>(∀ x ∈ l,x.ok)∧l.length * 56<=reachBytes):=
 zi.slice (sz:=4) (by_:=56) Tryz.underlying31 (by kernel_rfl) (by kernel_rfl) (by decide) (fun _=>rfl) zb7
def Scr.ok (s:Scr):Prop:=s.first.ok∧((∀ x ∈ s.threads,(∀ o ∈ x,o.ok)∧x.length * 152<=reachBytes)∧s.threads.length * 24<=reachBytes)
end Go.Hy
namespace Go.Hy
open Go.Ab Go.Proofs
end Go.Hy
