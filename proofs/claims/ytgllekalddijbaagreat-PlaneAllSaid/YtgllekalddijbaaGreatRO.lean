import Derived.Test.YtgllekalddijbaaGreatRJ
import Derived.Test.YtgllekalddijbaaGreatProg
set_option linter.unusedVariables false
set_option linter.unusedSimpArgs false
set_option linter.unusedSectionVars false
set_option maxRecDepth 100000
set_option maxHeartbeats 4000000
namespace Go.Hy
open Go.Ab Go.Proofs
theorem wf_i64 {n:Int} (h:(Lit.int .i64 n).wf=true):i64 n:=by
 simpa [Lit.wf,IntKind.min,IntKind.max,IntKind.signed,IntKind.bits,i64] using h
theorem wf_u64 {n:Int} (h:(Lit.int .u64 n).wf=true):u64 n:=by
 simpa [Lit.wf,IntKind.min,IntKind.max,IntKind.signed,IntKind.bits,u64] using h
theorem xg:zH Tryz.prog 9 (fun s:Str=>[Tx s]) (fun s=>s.length<=reachBytes):=
 zH.map (zH.string Tryz.underlying9) (fun s=>s.data.toList) fun s h=>⟨h,rfl⟩
theorem arg_int:vV Tryz.prog 3 I (fun n=>(Lit.int .i64 n).wf=true):=zH.zm5 Tryz.underlying3
end Go.Hy
namespace Go.Hy
open Go.Ab Go.Proofs
theorem ziW:zH Tryz.prog 22 (fun l:List Int=>[lI l]) (fun l=>(∀ x ∈ l,(Lit.int .i64 x).wf=true)∧l.length * 8<=reachBytes):=
 zH.slice (sz:=1) (by_:=8) Tryz.underlying22 (by kernel_rfl) (by kernel_rfl) (by decide) (fun _=>rfl) (zH.int Tryz.underlying3)
end Go.Hy
namespace Go.Hy
open Go.Ab Go.Proofs
theorem zbc {P:Program} {e:TypeId} {H X:Type} (f:Nat->Option (DataW H × X)):∀ (is:List Nat) (xs:List (DataW H × X)),is.mapM f=some xs->DataW.weightsEach P (is.map fun _=>e) (xs.map (·.1))=DataW.weightsAll P e (xs.map (·.1))
 | [],xs,h=>by
  rw [List.mapM_nil] at h
  cases h
  rfl
 | i::is,xs,h=>by
  rw [List.mapM_cons] at h
  cases h1:f i with
  | none=>rw [h1] at h;cases h
  | some x=>
   rw [h1] at h
   cases h2:is.mapM f with
   | none=>rw [h2] at h;cases h
   | some r=>
    rw [h2] at h
    cases h
    simp only [List.map_cons,DataW.weightsEach,DataW.weightsAll,zbc f is r h2]
def fieldAt (P:Program) (e:TypeId) (i:Nat):Field:={ (default:Field) with type:=e,offset:=i * P.cellsOf e }
theorem zH.array {P:Program} {t e:TypeId} {n:Nat} {α:Type} {enc:α->List C} {wf:α->Prop} (ht:P.underlying t=some (.array n e)) (hc:P.cellsOf t=(((List.range n).map (fieldAt P e)).map fun f=>P.cellsOf f.type).sum) (h:zQ P ((List.range n).map (fieldAt P e)) 0 enc wf):zH P t enc wf:=by
 intro H eH w fuel cs d ps hr hf
 cases fuel with
 | zero=>cases hr
 | succ fuel=>
  unfold DataW.trod at hr
  rw [ht] at hr
  dsimp only at hr
  split at hr
  ·rename_i hl
   cases h2:((List.range n).mapM fun i=>DataW.trod eH P w 0 (fun _=>true) true fuel e ((cs.drop (i * P.cellsOf e)).take (P.cellsOf e))) with
   | none=>rw [h2] at hr;cases hr
   | some xs=>
    rw [h2] at hr
    cases hr
    have h3:(((List.range n).map (fieldAt P e)).mapM fun f=>DataW.trod eH P w 0 (fun _=>true) true fuel f.type ((cs.drop f.offset).take (P.cellsOf f.type)))=some xs:=by
     rw [List.mapM_map];exact h2
    have h4:(DataW.weightsEach P (((List.range n).map (fieldAt P e)).map (·.type)) (xs.map (·.1))).all (·<=reachBytes)=true:=by
     have e1:((List.range n).map (fieldAt P e)).map (·.type)=(List.range n).map fun _=>e:=by rw [List.map_map];rfl
     rw [e1,zbc _ _ _ h2]
     simpa [fits,DataW.weights,ht] using hf
    obtain ⟨x,h5,h6,h7⟩:=h eH w fuel cs xs h3 h4 (by rw [hl,hc];simp)
    exact ⟨x,h5,by simpa using h6,by simpa using h7⟩
  ·cases hr
def Six.ok (s:Six):Prop:=True
def Eve.ok (e:Eve):Prop:=True
end Go.Hy
namespace Go.Hy
open Go.Ab Go.Proofs
def zfW (s:Str):Prop:=s.length<=reachBytes
def Clu.ok (c:Clu):Prop:=c.name.length<=reachBytes∧c.zM.length<=reachBytes
def Rou.ok (r:Rou):Prop:=r.listen.length<=reachBytes∧r.host.length<=reachBytes∧r.path.length<=reachBytes∧r.zg.length<=reachBytes
def Cfg.ok (c:Cfg):Prop:=((∀ s ∈ c.ze,zfW s)∧c.ze.length * 16<=reachBytes)∧((∀ r ∈ c.qf,r.ok)∧c.qf.length * 64<=reachBytes)∧((∀ x ∈ c.zm,x.ok)∧c.zm.length * 56<=reachBytes)
def Opn.ok (o:Opn):Prop:=o.listen.length<=reachBytes∧o.host.length<=reachBytes∧o.path.length<=reachBytes∧o.config.ok
theorem zns:zH Tryz.prog 4 yu (fun _=>True):=zH.map (zH.bool Tryz.underlying4) (fun b=>b) fun b h=>⟨trivial,rfl⟩
theorem zmk:zH Tryz.prog 146 (fun l:List Bool=>[lB l]) (fun l=>(∀ x ∈ l,True)∧l.length * 1<=reachBytes):=
 zH.slice (sz:=1) (by_:=1) Tryz.underlying146 (by kernel_rfl) (by kernel_rfl) (by decide) (fun _=>rfl) zns
theorem znt:zH Tryz.prog 9 v7 zfW:=zH.map (zH.string Tryz.underlying9) (fun s=>s.data.toList) fun s h=>⟨h,rfl⟩
theorem ziX:zH Tryz.prog 29 (fun l:List Str=>[lT l]) (fun l=>(∀ x ∈ l,zfW x)∧l.length * 16<=reachBytes):=
 zH.slice (sz:=1) (by_:=16) Tryz.underlying29 (by kernel_rfl) (by kernel_rfl) (by decide) (fun _=>rfl) znt
theorem zln:zH Tryz.prog 148 jn Clu.ok:=
 zH.map (zH.struct Tryz.underlying148 (by kernel_rfl) (zQ.cons rfl (xg) (zQ.cons rfl (zH.int Tryz.underlying3) (zQ.cons rfl (zH.int Tryz.underlying3) (zQ.cons rfl zmk (zQ.nil _)))))) (fun x=>⟨x.1,x.2.1,x.2.2.1,x.2.2.2.1⟩) fun x h=>⟨⟨h.1,by have:=h.2.2.2.1.2;rw [Nat.mul_one] at this;exact this⟩,rfl⟩
theorem ziV:zH Tryz.prog 31 (fun l:List Clu=>[lC l]) (fun l=>(∀ x ∈ l,x.ok)∧l.length * 56<=reachBytes):=
 zH.slice (sz:=4) (by_:=56) Tryz.underlying31 (by kernel_rfl) (by kernel_rfl) (by decide) (fun _=>rfl) zln
theorem zlq:zH Tryz.prog 150 kQ Rou.ok:=
 zH.map (zH.struct Tryz.underlying150 (by kernel_rfl) (zQ.cons rfl (xg) (zQ.cons rfl (xg) (zQ.cons rfl (xg) (zQ.cons rfl (xg) (zQ.nil _)))))) (fun x=>⟨x.1,x.2.1,x.2.2.1,x.2.2.2.1⟩) fun x h=>⟨⟨h.1,h.2.1,h.2.2.1,h.2.2.2.1⟩,rfl⟩
theorem zml:zH Tryz.prog 30 (fun l:List Rou=>[lO l]) (fun l=>(∀ x ∈ l,x.ok)∧l.length * 64<=reachBytes):=
 zH.slice (sz:=4) (by_:=64) Tryz.underlying30 (by kernel_rfl) (by kernel_rfl) (by decide) (fun _=>rfl) zlq
theorem zlm:zH Tryz.prog 33 zhr Cfg.ok:=
 zH.map (zH.struct Tryz.underlying33 (by kernel_rfl) (zQ.cons rfl ziX (zQ.cons rfl zml (zQ.cons rfl ziV (zQ.nil _))))) (fun x=>⟨x.1,x.2.1,x.2.2.1⟩) fun x h=>⟨⟨h.1,h.2.1,h.2.2.1⟩,rfl⟩
def Scr.ok (s:Scr):Prop:=s.first.ok∧((∀ x ∈ s.threads,(∀ o ∈ x,o.ok)∧x.length * 152<=reachBytes)∧s.threads.length * 24<=reachBytes)
end Go.Hy
namespace Go.Hy
open Go.Ab Go.Proofs
end Go.Hy
