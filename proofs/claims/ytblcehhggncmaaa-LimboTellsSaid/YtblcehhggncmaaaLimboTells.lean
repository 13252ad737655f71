/- Proof of LimboTellsSaid: for every input hydrant/hydrantlaw16.LimboTells returns true, and its arguments read behind the call as before. No condition. -/
import Derived.Test.YtblcehhggncmaaaRows
import Derived.OpenShut
import Derived.Test.YtblcehhggncmaaaOpnA
import Derived.Test.YtblcehhggncmaaaLimM
namespace Go.Proofs.Ytblcehhggncmaaa.limboTells
open Go.Ab Go.Hy
set_option linter.unusedVariables false
set_option maxRecDepth 100000

theorem own : ownKnob Try.prog.godebug = none := by kernel_rfl
theorem laidOut : laidOutB Try.prog = true := by kernel_rfl

theorem lifted (os : Os) (started : os.Started) (H : Type) (enc : TypeId × Value → H) :
    ReturnsInHanded {} Try.checked os 8 .any (Rows.limboTellsSpec.pre6 enc Try.prog Try.f8 Rows.limboTellsRow.domain false) (Rows.limboTellsSpec.post enc Try.prog Try.f8 false true false false) := by
  refine returnsInHanded_of_change_sized (C := Try.checked) own started (by kernel_rfl) Try.func8
    (ChangeSpec.witness6 (enc := enc) (C := Try.checked) false ⟨#[], #[.slice none 0 0, .int .i64 0, .int .i64 0, .int .i64 0], []⟩ 12 (by kernel_rfl) (by kernel_rfl) (by kernel_rfl) (by kernel_rfl)) ?_
  intro W base args ds gs before hval hW hcnd hsz _
  refine law_close (tb := 4) laidOut (by kernel_rfl) rfl Try.underlying4 rfl ?_ hval hW hsz (OpenArgs.cons arg_lRet (OpenArgs.cons arg_int (OpenArgs.cons arg_int (OpenArgs.cons arg_int OpenArgs.nil)))) (fun x h => Lim.tells_sound h.1 (wf_i64 h.2.2.2.1))
  intro ds hds
  match ds, hds with
  | [d0, d1, d2, d3], _ => rfl

theorem proved : Rows.LimboTellsSaid :=
  OpenClaim.holds_of_wide 8 Try.f8 rfl rfl rfl rfl rfl rfl rfl ⟨rfl, rfl, rfl, rfl, rfl⟩ rfl rfl rfl rfl rfl (by kernel_rfl) Try.func8 (by kernel_rfl)
    (of_decide_eq_true (by kernel_rfl)) (by unfold Func.isWrapper; first | (rw [if_pos (by decide +kernel)]; kernel_rfl) | (rw [if_neg (by decide +kernel)]; exact ⟨rfl, rfl⟩))
    (fun os started H enc _ => lifted os started H enc)
end Go.Proofs.Ytblcehhggncmaaa.limboTells
