/- Proof of RunPlaysSaid: for every input hydrant/hydrantlaw27.RunPlays returns true, and its arguments read behind the call as before. No condition. -/
import Derived.Test.YtamgiodaflkbhaaGreatRows
import Derived.OpenShut
import Derived.JoinedOf
import Derived.Test.YtamgiodaflkbhaaGreatVS9
import Derived.Test.YtamgiodaflkbhaaGreatVO
namespace Go.Proofs.YtamgiodaflkbhaaGreat.runPlays
open Go.Ab Go.Hy
set_option linter.unusedVariables false
set_option maxRecDepth 100000

theorem own : ownKnob Tryz.prog.godebug = none := by kernel_rfl
theorem laidOut : laidOutB Tryz.prog = true := by kernel_rfl
theorem k0 : laidOutB Tryz.pinned.checked.prog = true := laidOut
theorem k1 : (Rows.runPlaysRow.inPlace == Tryz.pinned.checked.prog.inPlace 3) = true := by kernel_rfl
theorem k2 : (Rows.runPlaysRow.unfollowed == Tryz.pinned.checked.prog.unfollowed 3) = true := by kernel_rfl
theorem k3 : (Rows.runPlaysRow.recurses == Tryz.pinned.checked.prog.recurses 3) = true := by kernel_rfl
theorem k4 : (Rows.runPlaysRow.named == Tryz.pinned.checked.prog.varsNamed 3) = true := by kernel_rfl
theorem k5 : mapsRowed Tryz.pinned.checked.prog = true := by kernel_rfl
theorem k6 : Tryz.pinned.checked.prog.stopsHeard = true := by kernel_rfl
theorem k7 : Tryz.pinned.checked.prog.mayEnter = true := by kernel_rfl
theorem facts : joinedFacts Tryz.pinned.checked.prog 3 Tryz.f3 Rows.runPlaysSpec Rows.runPlaysRow = true := by
  unfold joinedFacts
  rw [k0, k1, k2, k3, k4, k5, k6, k7]
  kernel_rfl

theorem lifted (os : Os) (started : os.Started) (H : Type) (enc : TypeId × Value → H) :
    ReturnsInHanded {} Tryz.checked os 3 .any (Rows.runPlaysSpec.pre6 enc Tryz.prog Tryz.f3 Rows.runPlaysRow.domain false) (Rows.runPlaysSpec.post enc Tryz.prog Tryz.f3 false true false false) := by
  refine returnsInHanded_of_change_sized (C := Tryz.checked) own started (by kernel_rfl) Tryz.func3
    (ChangeSpec.witness6 (enc := enc) (C := Tryz.checked) false ⟨#[], #[.agg #[.slice none 0 0, .slice none 0 0, .slice none 0 0, .slice none 0 0, .slice none 0 0]], []⟩ 12 (by kernel_rfl) (by kernel_rfl) (by kernel_rfl) (by kernel_rfl)) ?_
  intro W base args ds gs before hval hW hcnd hsz _
  refine law_close (tb := 4) laidOut (by kernel_rfl) rfl Tryz.underlying4 rfl ?_ hval hW hsz ((OpenArgs.cons arg_ScrI OpenArgs.nil)) ((fun x h => Go.Run.runPlays_sound _ h.1))
  intro ds hds
  match ds, hds with
  | [d0], _ => rfl

theorem proved : Rows.RunPlaysSaid :=
  OpenClaim.holds_of_wide 3 Tryz.f3 rfl rfl rfl rfl rfl rfl rfl ⟨rfl, rfl, rfl, rfl, rfl⟩ rfl rfl rfl rfl rfl (by kernel_rfl) Tryz.func3 facts
    (of_decide_eq_true (by kernel_rfl)) (by unfold Func.isWrapper; first | (rw [if_pos (by decide +kernel)]; kernel_rfl) | (rw [if_neg (by decide +kernel)]; exact ⟨rfl, rfl⟩))
    (fun os started H enc _ => lifted os started H enc)
end Go.Proofs.YtamgiodaflkbhaaGreat.runPlays
