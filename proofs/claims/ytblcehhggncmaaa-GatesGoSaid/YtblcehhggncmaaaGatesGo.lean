/- Proof of GatesGoSaid: for every input hydrant/hydrantlaw17.GatesGo returns true, and its arguments read behind the call as before. No condition. -/
import Derived.Test.YtblcehhggncmaaaRows
import Derived.OpenShut
import Derived.Test.YtblcehhggncmaaaOpnA
import Derived.Test.YtblcehhggncmaaaGatF
namespace Go.Proofs.Ytblcehhggncmaaa.gatesGo
open Go.Ab Go.Hy
set_option linter.unusedVariables false
set_option maxRecDepth 100000

theorem own : ownKnob Try.prog.godebug = none := by kernel_rfl
theorem laidOut : laidOutB Try.prog = true := by kernel_rfl

theorem lifted (os : Os) (started : os.Started) (H : Type) (enc : TypeId × Value → H) :
    ReturnsInHanded {} Try.checked os 13 .any (Rows.gatesGoSpec.pre6 enc Try.prog Try.f13 Rows.gatesGoRow.domain false) (Rows.gatesGoSpec.post enc Try.prog Try.f13 false true false false) := by
  refine returnsInHanded_of_change_sized (C := Try.checked) own started (by kernel_rfl) Try.func13
    (ChangeSpec.witness6 (enc := enc) (C := Try.checked) false ⟨#[], #[.agg #[.string ⟨#[]⟩, .bool false, .int .i64 0, .bool false], .slice none 0 0], []⟩ 12 (by kernel_rfl) (by kernel_rfl) (by kernel_rfl) (by kernel_rfl)) ?_
  intro W base args ds gs before hval hW hcnd hsz _
  refine law_close (tb := 4) laidOut (by kernel_rfl) rfl Try.underlying4 rfl ?_ hval hW hsz ((OpenArgs.cons arg_Lis (OpenArgs.cons arg_lI OpenArgs.nil))) ((fun x h => Gat.go_sound x.1.name x.1.drain x.1.closed x.1.active _ h.1 (by have := h.2.1.2; unfold reachBytes at this; omega)))
  intro ds hds
  match ds, hds with
  | [d0, d1], _ => rfl

theorem proved : Rows.GatesGoSaid :=
  OpenClaim.holds_of_wide 13 Try.f13 rfl rfl rfl rfl rfl rfl rfl ⟨rfl, rfl, rfl, rfl, rfl⟩ rfl rfl rfl rfl rfl (by kernel_rfl) Try.func13 (by kernel_rfl)
    (of_decide_eq_true (by kernel_rfl)) (by unfold Func.isWrapper; first | (rw [if_pos (by decide +kernel)]; kernel_rfl) | (rw [if_neg (by decide +kernel)]; exact ⟨rfl, rfl⟩))
    (fun os started H enc _ => lifted os started H enc)
end Go.Proofs.Ytblcehhggncmaaa.gatesGo
