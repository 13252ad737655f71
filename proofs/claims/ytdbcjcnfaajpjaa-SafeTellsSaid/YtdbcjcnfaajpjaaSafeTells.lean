/- Proof of SafeTellsSaid: for every input hydrant/hydrantlaw28.SafeTells returns true, and its arguments read behind the call as before. No condition. -/
import Derived.Test.YtdbcjcnfaajpjaaRows
import Derived.OpenShut
import Derived.Test.YtdbcjcnfaajpjaaQI
import Derived.Test.YtdbcjcnfaajpjaaQE
namespace Go.Proofs.Ytdbcjcnfaajpjaa.safeTells
open Go.Ab Go.Hy
set_option linter.unusedVariables false
set_option maxRecDepth 100000

theorem own : ownKnob Try.prog.godebug = none := by kernel_rfl
theorem laidOut : laidOutB Try.prog = true := by kernel_rfl

theorem lifted (os : Os) (started : os.Started) (H : Type) (enc : TypeId × Value → H) :
    ReturnsInHanded {} Try.checked os 3 .any (Rows.safeTellsSpec.pre6 enc Try.prog Try.f3 Rows.safeTellsRow.domain false) (Rows.safeTellsSpec.post enc Try.prog Try.f3 false true false false) := by
  refine returnsInHanded_of_change_sized (C := Try.checked) own started (by kernel_rfl) Try.func3
    (ChangeSpec.witness6 (enc := enc) (C := Try.checked) false ⟨#[], #[.slice none 0 0], []⟩ 12 (by kernel_rfl) (by kernel_rfl) (by kernel_rfl) (by kernel_rfl)) ?_
  intro W base args ds gs before hval hW hcnd hsz _
  refine law_close (tb := 4) laidOut (by kernel_rfl) rfl Try.underlying4 rfl ?_ hval hW hsz ((OpenArgs.cons arg_lEv OpenArgs.nil)) ((fun x h => Go.Saf.tells_sound _ (by have := h.1.2; unfold reachBytes at this; omega)))
  intro ds hds
  match ds, hds with
  | [d0], _ => rfl

theorem proved : Rows.SafeTellsSaid :=
  OpenClaim.holds_of_wide 3 Try.f3 rfl rfl rfl rfl rfl rfl rfl ⟨rfl, rfl, rfl, rfl, rfl⟩ rfl rfl rfl rfl rfl (by kernel_rfl) Try.func3 (by kernel_rfl)
    (of_decide_eq_true (by kernel_rfl)) (by unfold Func.isWrapper; first | (rw [if_pos (by decide +kernel)]; kernel_rfl) | (rw [if_neg (by decide +kernel)]; exact ⟨rfl, rfl⟩))
    (fun os started H enc _ => lifted os started H enc)
end Go.Proofs.Ytdbcjcnfaajpjaa.safeTells
