/- What is handed in, type by type: rows of numbers. -/
import Derived.Test.YtbndjpkncgfpiaaOpnS
namespace Go.Hy
open Go.Ab Go.Proofs
set_option linter.unusedVariables false
set_option maxRecDepth 20000

theorem open_lI : Opens Try.prog 26 (fun l : List Int => [lI l]) (fun l => (∀ x ∈ l, (Lit.int .i64 x).wf = true) ∧ l.length * 8 ≤ reachBytes) :=
  Opens.slice (sz := 1) (by_ := 8) Try.underlying26 (by kernel_rfl) (by kernel_rfl) (by decide) (fun _ => rfl) (Opens.int Try.underlying3)
theorem arg_lI : OpenArg Try.prog 26 lI (fun l : List Int => (∀ x ∈ l, (Lit.int .i64 x).wf = true) ∧ l.length * 8 ≤ reachBytes) := Opens.argSlice Try.underlying26 open_lI


end Go.Hy
