/- Proof of LinearTakesSaid: for every input hydrant/hydrantlaw29.LinearTakes returns true, and its arguments read behind the call as before. No condition. -/
import Derived.Test.YtbndjpkncgfpiaaRows
import Derived.OpenShut
import Derived.Test.YtbndjpkncgfpiaaQN
namespace Go.Proofs.Ytbndjpkncgfpiaa.linearTakes
open Go.Ab Go.Hy
set_option linter.unusedVariables false
set_option maxRecDepth 100000

theorem own : ownKnob Try.prog.godebug = none := by kernel_rfl
theorem laidOut : laidOutB Try.prog = true := by kernel_rfl

theorem lifted (os : Os) (started : os.Started) (H : Type) (enc : TypeId × Value → H) :
    ReturnsInHanded {} Try.checked os 8 .any (Rows.linearTakesSpec.pre6 enc Try.prog Try.f8 Rows.linearTakesRow.domain false) (Rows.linearTakesSpec.post enc Try.prog Try.f8 false true false false) := by
  refine returnsInHanded_of_change_sized (C := Try.checked) own started (by kernel_rfl) Try.func8
    (ChangeSpec.witness6 (enc := enc) (C := Try.checked) false ⟨#[], #[.agg #[.slice none 0 0, .slice none 0 0, .slice none 0 0], .slice none 0 0, .slice none 0 0], []⟩ 12 (by kernel_rfl) (by kernel_rfl) (by kernel_rfl) (by kernel_rfl)) ?_
  intro W base args ds gs before hval hW hcnd hsz _
  refine law_close (tb := 4) laidOut (by kernel_rfl) rfl Try.underlying4 rfl ?_ hval hW hsz ((OpenArgs.cons arg_Cfg (OpenArgs.cons arg_lP (OpenArgs.cons arg_lA OpenArgs.nil)))) ((fun x h => Go.Lin.takes_sound _ _ _ h.1 h.2.1.1 (by have := h.2.1.2; unfold reachBytes at this; omega) (by have := h.2.2.1.2; unfold reachBytes at this; omega)))
  intro ds hds
  match ds, hds with
  | [d0, d1, d2], _ => rfl

theorem proved : Rows.LinearTakesSaid :=
  OpenClaim.holds_of_wide 8 Try.f8 rfl rfl rfl rfl rfl rfl rfl ⟨rfl, rfl, rfl, rfl, rfl⟩ rfl rfl rfl rfl rfl (by kernel_rfl) Try.func8 (by kernel_rfl)
    (of_decide_eq_true (by kernel_rfl)) (by unfold Func.isWrapper; first | (rw [if_pos (by decide +kernel)]; kernel_rfl) | (rw [if_neg (by decide +kernel)]; exact ⟨rfl, rfl⟩))
    (fun os started H enc _ => lifted os started H enc)
end Go.Proofs.Ytbndjpkncgfpiaa.linearTakes
