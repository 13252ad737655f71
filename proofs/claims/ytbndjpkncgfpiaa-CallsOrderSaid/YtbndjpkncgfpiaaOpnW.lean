/- What is handed in, type by type: calls. -/
import Derived.Test.YtbndjpkncgfpiaaOpnV
namespace Go.Hy
open Go.Ab Go.Proofs
set_option linter.unusedVariables false
set_option maxRecDepth 20000

theorem open_Cal : Opens Try.prog 38 encCal (fun _ => True) :=
  Opens.map (Opens.struct Try.underlying38 (by kernel_rfl) (OpensF.cons rfl (Opens.int Try.underlying3) (OpensF.cons rfl (Opens.int Try.underlying3) (OpensF.cons rfl (Opens.int Try.underlying3) (OpensF.cons rfl (Opens.int Try.underlying3) (OpensF.cons rfl (Opens.int Try.underlying3) (OpensF.cons rfl open_Ans (OpensF.nil _)))))))) (fun x => ⟨x.1, x.2.1, x.2.2.1, x.2.2.2.1, x.2.2.2.2.1, x.2.2.2.2.2.1⟩) fun x h => ⟨trivial, by simp [encCal]⟩
theorem arg_lCal : OpenArg Try.prog 22 lCal (fun l : List Cal => (∀ x ∈ l, True) ∧ l.length * 144 ≤ reachBytes) :=
  Opens.argSlice Try.underlying22 (Opens.slice (sz := 18) (by_ := 144) Try.underlying22 (by kernel_rfl) (by kernel_rfl) (by decide) (fun _ => rfl) open_Cal)
end Go.Hy
