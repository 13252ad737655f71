/- Proof of SlotsDrainSaid: for every input hydrant/hydrantlaw14.SlotsDrain returns true, and its arguments read behind the call as before. No condition. -/
import Derived.Test.YtephgjkcoopocaaRows
import Derived.OpenShut
import Derived.Test.YtephgjkcoopocaaOpnE
import Derived.Test.YtephgjkcoopocaaSlpK
namespace Go.Proofs.Ytephgjkcoopocaa.slotsDrain
open Go.Ab Go.Hy
set_option linter.unusedVariables false
set_option maxRecDepth 100000

theorem own : ownKnob Try.prog.godebug = none := by kernel_rfl
theorem laidOut : laidOutB Try.prog = true := by kernel_rfl

theorem lifted (os : Os) (started : os.Started) (H : Type) (enc : TypeId × Value → H) :
    ReturnsInHanded {} Try.checked os 13 .any (Rows.slotsDrainSpec.pre6 enc Try.prog Try.f13 Rows.slotsDrainRow.domain false) (Rows.slotsDrainSpec.post enc Try.prog Try.f13 false true false false) := by
  refine returnsInHanded_of_change_sized (C := Try.checked) own started (by kernel_rfl) Try.func13
    (ChangeSpec.witness6 (enc := enc) (C := Try.checked) false ⟨#[], #[.agg #[.int .u64 0, .slice none 0 0, .int .i64 0]], []⟩ 12 (by kernel_rfl) (by kernel_rfl) (by kernel_rfl) (by kernel_rfl)) ?_
  intro W base args ds gs before hval hW hcnd hsz _
  refine law_close (tb := 4) laidOut (by kernel_rfl) rfl Try.underlying4 rfl ?_ hval hW hsz ((OpenArgs.cons arg_En OpenArgs.nil)) ((fun x h => Slp.drainL_sound _ h.1))
  intro ds hds
  match ds, hds with
  | [d0], _ => rfl

theorem proved : Rows.SlotsDrainSaid :=
  OpenClaim.holds_of_wide 13 Try.f13 rfl rfl rfl rfl rfl rfl rfl ⟨rfl, rfl, rfl, rfl, rfl⟩ rfl rfl rfl rfl rfl (by kernel_rfl) Try.func13 (by kernel_rfl)
    (of_decide_eq_true (by kernel_rfl)) (by unfold Func.isWrapper; first | (rw [if_pos (by decide +kernel)]; kernel_rfl) | (rw [if_neg (by decide +kernel)]; exact ⟨rfl, rfl⟩))
    (fun os started H enc _ => lifted os started H enc)
end Go.Proofs.Ytephgjkcoopocaa.slotsDrain
