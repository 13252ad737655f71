/- Proof of LimboMarkedSaid: for every input hydrant/hydrantlaw16.LimboMarked returns true, and its arguments read behind the call as before. No condition. -/
import Derived.Test.YtblcehhggncmaaaRows
import Derived.OpenShut
import Derived.Test.YtblcehhggncmaaaOpnA
import Derived.Test.YtblcehhggncmaaaLimQ
namespace Go.Proofs.Ytblcehhggncmaaa.limboMarked
open Go.Ab Go.Hy
set_option linter.unusedVariables false
set_option maxRecDepth 100000

theorem own : ownKnob Try.prog.godebug = none := by kernel_rfl
theorem laidOut : laidOutB Try.prog = true := by kernel_rfl

theorem lifted (os : Os) (started : os.Started) (H : Type) (enc : TypeId × Value → H) :
    ReturnsInHanded {} Try.checked os 11 .any (Rows.limboMarkedSpec.pre6 enc Try.prog Try.f11 Rows.limboMarkedRow.domain false) (Rows.limboMarkedSpec.post enc Try.prog Try.f11 false true false false) := by
  refine returnsInHanded_of_change_sized (C := Try.checked) own started (by kernel_rfl) Try.func11
    (ChangeSpec.witness6 (enc := enc) (C := Try.checked) false ⟨#[], #[.slice none 0 0, .int .i64 0, .int .i64 0], []⟩ 12 (by kernel_rfl) (by kernel_rfl) (by kernel_rfl) (by kernel_rfl)) ?_
  intro W base args ds gs before hval hW hcnd hsz _
  refine law_close (tb := 4) laidOut (by kernel_rfl) rfl Try.underlying4 rfl ?_ hval hW hsz (OpenArgs.cons arg_lRet (OpenArgs.cons arg_int (OpenArgs.cons arg_int OpenArgs.nil))) (fun x h => Lim.marked_sound h.1 (wf_i64 h.2.1))
  intro ds hds
  match ds, hds with
  | [d0, d1, d2], _ => rfl

theorem proved : Rows.LimboMarkedSaid :=
  OpenClaim.holds_of_wide 11 Try.f11 rfl rfl rfl rfl rfl rfl rfl ⟨rfl, rfl, rfl, rfl, rfl⟩ rfl rfl rfl rfl rfl (by kernel_rfl) Try.func11 (by kernel_rfl)
    (of_decide_eq_true (by kernel_rfl)) (by unfold Func.isWrapper; first | (rw [if_pos (by decide +kernel)]; kernel_rfl) | (rw [if_neg (by decide +kernel)]; exact ⟨rfl, rfl⟩))
    (fun os started H enc _ => lifted os started H enc)
end Go.Proofs.Ytblcehhggncmaaa.limboMarked
