/- Proof of PlaneEndsSaid: for every input hydrant/hydrantlaw26.PlaneEnds returns true, and its arguments read behind the call as before. No condition. -/
import Derived.Test.YtdbcjcnfaajpjaaGreatRows
import Derived.OpenShut
import Derived.Test.YtdbcjcnfaajpjaaGreatRN
namespace Go.Proofs.YtdbcjcnfaajpjaaGreat.planeEnds
open Go.Ab Go.Hy
set_option linter.unusedVariables false
set_option maxRecDepth 100000

theorem own : ownKnob Tryz.prog.godebug = none := by kernel_rfl
theorem laidOut : laidOutB Tryz.prog = true := by kernel_rfl

theorem lifted (os : Os) (started : os.Started) (H : Type) (enc : TypeId × Value → H) :
    ReturnsInHanded {} Tryz.checked os 4 .any (Rows.planeEndsSpec.pre6 enc Tryz.prog Tryz.f4 Rows.planeEndsRow.domain false) (Rows.planeEndsSpec.post enc Tryz.prog Tryz.f4 false true false false) := by
  refine returnsInHanded_of_change_sized (C := Tryz.checked) own started (by kernel_rfl) Tryz.func4
    (ChangeSpec.witness6 (enc := enc) (C := Tryz.checked) false ⟨#[], #[.agg #[.int .i64 0, .int .i64 0, .int .i64 0, .slice none 0 0, .slice none 0 0, .slice none 0 0, .slice none 0 0, .slice none 0 0], .int .i64 0, .agg #[.int .i64 0, .string ⟨#[]⟩, .string ⟨#[]⟩, .string ⟨#[]⟩, .int .i64 0, .int .i64 0, .int .i64 0, .slice none 0 0, .slice none 0 0, .slice none 0 0]], []⟩ 12 (by kernel_rfl) (by kernel_rfl) (by kernel_rfl) (by kernel_rfl)) ?_
  intro W base args ds gs before hval hW hcnd hsz _
  refine law_close (tb := 4) laidOut (by kernel_rfl) rfl Tryz.underlying4 rfl ?_ hval hW hsz ((OpenArgs.cons arg_Wor (OpenArgs.cons arg_int (OpenArgs.cons arg_OpnW OpenArgs.nil)))) ((fun x h => Go.Wor.planeEnds_sound _ _ _ h.1 h.2.2.1))
  intro ds hds
  match ds, hds with
  | [d0, d1, d2], _ => rfl

theorem proved : Rows.PlaneEndsSaid :=
  OpenClaim.holds_of_wide 4 Tryz.f4 rfl rfl rfl rfl rfl rfl rfl ⟨rfl, rfl, rfl, rfl, rfl⟩ rfl rfl rfl rfl rfl (by kernel_rfl) Tryz.func4 (by kernel_rfl)
    (of_decide_eq_true (by kernel_rfl)) (by unfold Func.isWrapper; first | (rw [if_pos (by decide +kernel)]; kernel_rfl) | (rw [if_neg (by decide +kernel)]; exact ⟨rfl, rfl⟩))
    (fun os started H enc _ => lifted os started H enc)
end Go.Proofs.YtdbcjcnfaajpjaaGreat.planeEnds
