/- What is handed in, type by type: listeners. -/
import Derived.Test.YtephgjkcoopocaaOpnS
namespace Go.Hy
open Go.Ab Go.Proofs
set_option linter.unusedVariables false
set_option maxRecDepth 20000


theorem open_Lis : Opens Try.prog 25 encL Lis.ok :=
  Opens.map (Opens.struct Try.underlying25 (by kernel_rfl) (OpensF.cons rfl (open_Str) (OpensF.cons rfl (Opens.bool Try.underlying4) (OpensF.cons rfl (Opens.int Try.underlying3) (OpensF.cons rfl (Opens.bool Try.underlying4) (OpensF.nil _)))))) (fun x => ⟨x.1, x.2.1, x.2.2.1, x.2.2.2.1⟩) fun x h => ⟨⟨h.1, wf_i64 h.2.2.1⟩, rfl⟩
theorem open_lLis : Opens Try.prog 22 (fun l : List Lis => [lL l]) (fun l => (∀ x ∈ l, x.ok) ∧ l.length * 40 ≤ reachBytes) :=
  Opens.slice (sz := 4) (by_ := 40) Try.underlying22 (by kernel_rfl) (by kernel_rfl) (by decide) (fun _ => rfl) open_Lis
theorem arg_Lis : OpenArg Try.prog 25 (fun x => .agg (encL x)) Lis.ok := Opens.argStruct Try.underlying25 open_Lis
theorem arg_lLis : OpenArg Try.prog 22 lL (fun l : List Lis => (∀ x ∈ l, x.ok) ∧ l.length * 40 ≤ reachBytes) := Opens.argSlice Try.underlying22 open_lLis

end Go.Hy
