/- What is handed in, type by type: endpoints. -/
import Derived.Test.YtephgjkcoopocaaOpnI
namespace Go.Hy
open Go.Ab Go.Proofs
set_option linter.unusedVariables false
set_option maxRecDepth 20000

theorem open_En : Opens Try.prog 38 encE En.ok :=
  Opens.map (Opens.struct Try.underlying38 (by kernel_rfl) (OpensF.cons rfl (Opens.int Try.underlying35) (OpensF.cons rfl open_lI (OpensF.cons rfl (Opens.int Try.underlying3) (OpensF.nil _))))) (fun x => ⟨x.1, x.2.1, x.2.2.1⟩) fun x h => ⟨⟨wf_u64 h.1, ⟨fun y hy => wf_i64 (h.2.1.1 y hy), by have := h.2.1.2; unfold reachBytes at this; show x.2.1.length ≤ _; omega⟩, wf_i64 h.2.2.1⟩, rfl⟩
theorem arg_En : OpenArg Try.prog 38 (fun x => .agg (encE x)) En.ok := Opens.argStruct Try.underlying38 open_En

end Go.Hy
