/- What is handed in, type by type: rows of what went, listeners, numbers, texts. -/
import Derived.Test.YtblcehhggncmaaaAbO
import Derived.Test.YtblcehhggncmaaaApi
import Derived.Test.YtblcehhggncmaaaProg
namespace Go.Hy
open Go.Ab Go.Proofs
set_option linter.unusedVariables false

theorem wf_i64 {n : Int} (h : (Lit.int .i64 n).wf = true) : i64 n := by
  simpa [Lit.wf, IntKind.min, IntKind.max, IntKind.signed, IntKind.bits, i64] using h
theorem wf_u64 {n : Int} (h : (Lit.int .u64 n).wf = true) : u64 n := by
  simpa [Lit.wf, IntKind.min, IntKind.max, IntKind.signed, IntKind.bits, u64] using h


theorem open_Ret : Opens Try.prog 61 encR Ret.ok :=
  Opens.map (Opens.struct Try.underlying61 (by kernel_rfl) (OpensF.cons rfl (Opens.int Try.underlying3) (OpensF.cons rfl (Opens.int Try.underlying3) (OpensF.cons rfl (Opens.bool Try.underlying4) (OpensF.nil _))))) (fun x => ⟨x.1, x.2.1, x.2.2.1⟩) fun x h => ⟨⟨wf_i64 h.1, wf_i64 h.2.1⟩, rfl⟩

theorem open_lRet : Opens Try.prog 34 (fun l : List Ret => [lR l]) (fun l => (∀ x ∈ l, x.ok) ∧ l.length * 24 ≤ reachBytes) :=
  Opens.slice (sz := 3) (by_ := 24) Try.underlying34 (by kernel_rfl) (by kernel_rfl) (by decide) (fun _ => rfl) open_Ret

theorem arg_lRet : OpenArg Try.prog 34 lR (fun l : List Ret => (∀ x ∈ l, x.ok) ∧ l.length * 24 ≤ reachBytes) := Opens.argSlice Try.underlying34 open_lRet
theorem arg_int : OpenArg Try.prog 3 I (fun n => (Lit.int .i64 n).wf = true) := Opens.argInt Try.underlying3

end Go.Hy
