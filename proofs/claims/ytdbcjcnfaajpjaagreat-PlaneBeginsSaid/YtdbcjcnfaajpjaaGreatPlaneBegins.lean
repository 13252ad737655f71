/- Proof of PlaneBeginsSaid: for every input hydrant/hydrantlaw26.PlaneBegins returns true, and its arguments read behind the call as before. No condition. -/
import Derived.Test.YtdbcjcnfaajpjaaGreatRows
import Derived.OpenShut
import Derived.Test.YtdbcjcnfaajpjaaGreatRM
import Derived.Test.YtdbcjcnfaajpjaaGreatRZ
import Derived.Test.YtdbcjcnfaajpjaaGreatRO
import Derived.Test.YtdbcjcnfaajpjaaGreatRK
namespace Go.Proofs.YtdbcjcnfaajpjaaGreat.planeBegins
open Go.Ab Go.Hy
set_option linter.unusedVariables false
set_option maxRecDepth 100000

theorem own : ownKnob Tryz.prog.godebug = none := by kernel_rfl
theorem laidOut : laidOutB Tryz.prog = true := by kernel_rfl

theorem lifted (os : Os) (started : os.Started) (H : Type) (enc : TypeId × Value → H) :
    ReturnsInHanded {} Tryz.checked os 3 .any (Rows.planeBeginsSpec.pre6 enc Tryz.prog Tryz.f3 Rows.planeBeginsRow.domain false) (Rows.planeBeginsSpec.post enc Tryz.prog Tryz.f3 false true false false) := by
  refine returnsInHanded_of_change_sized (C := Tryz.checked) own started (by kernel_rfl) Tryz.func3
    (ChangeSpec.witness6 (enc := enc) (C := Tryz.checked) false ⟨#[], #[.int .i64 0, .agg #[.int .i64 0, .string ⟨#[]⟩, .string ⟨#[]⟩, .string ⟨#[]⟩, .int .i64 0, .int .i64 0, .int .i64 0, .slice none 0 0, .slice none 0 0, .slice none 0 0], .slice none 0 0], []⟩ 12 (by kernel_rfl) (by kernel_rfl) (by kernel_rfl) (by kernel_rfl)) ?_
  intro W base args ds gs before hval hW hcnd hsz _
  refine law_close (tb := 4) laidOut (by kernel_rfl) rfl Tryz.underlying4 rfl ?_ hval hW hsz ((OpenArgs.cons arg_int (OpenArgs.cons arg_Opn (OpenArgs.cons arg_lA OpenArgs.nil)))) ((fun x h => Go.Beg.begins_sound Go.Wor.planed_sound _ _ _))
  intro ds hds
  match ds, hds with
  | [d0, d1, d2], _ => rfl

theorem proved : Rows.PlaneBeginsSaid :=
  OpenClaim.holds_of_wide 3 Tryz.f3 rfl rfl rfl rfl rfl rfl rfl ⟨rfl, rfl, rfl, rfl, rfl⟩ rfl rfl rfl rfl rfl (by kernel_rfl) Tryz.func3 (by kernel_rfl)
    (of_decide_eq_true (by kernel_rfl)) (by unfold Func.isWrapper; first | (rw [if_pos (by decide +kernel)]; kernel_rfl) | (rw [if_neg (by decide +kernel)]; exact ⟨rfl, rfl⟩))
    (fun os started H enc _ => lifted os started H enc)
end Go.Proofs.YtdbcjcnfaajpjaaGreat.planeBegins
