/- Proof of RunAloneSaid: for every input hydrant/hydrantlaw27.RunAlone returns true, and its arguments read behind the call as before. No condition. -/
import Derived.Test.YtamgiodaflkbhaaGreatRows
import Derived.OpenShut
import Derived.JoinedOf
import Derived.Test.YtamgiodaflkbhaaGreatTS0
import Derived.Test.YtamgiodaflkbhaaGreatTO
namespace Go.Proofs.YtamgiodaflkbhaaGreat.runAlone
open Go.Ab Go.Hy
set_option linter.unusedVariables false
set_option maxRecDepth 100000

theorem own : ownKnob Tryz.prog.godebug = none := by kernel_rfl
theorem laidOut : laidOutB Tryz.prog = true := by kernel_rfl
theorem k0 : laidOutB Tryz.pinned.checked.prog = true := laidOut
theorem k1 : (Rows.runAloneRow.inPlace == Tryz.pinned.checked.prog.inPlace 4) = true := by kernel_rfl
theorem k2 : (Rows.runAloneRow.unfollowed == Tryz.pinned.checked.prog.unfollowed 4) = true := by kernel_rfl
theorem k3 : (Rows.runAloneRow.recurses == Tryz.pinned.checked.prog.recurses 4) = true := by kernel_rfl
theorem k4 : (Rows.runAloneRow.named == Tryz.pinned.checked.prog.varsNamed 4) = true := by kernel_rfl
theorem k5 : mapsRowed Tryz.pinned.checked.prog = true := by kernel_rfl
theorem k6 : Tryz.pinned.checked.prog.stopsHeard = true := by kernel_rfl
theorem k7 : Tryz.pinned.checked.prog.mayEnter = true := by kernel_rfl
theorem facts : joinedFacts Tryz.pinned.checked.prog 4 Tryz.f4 Rows.runAloneSpec Rows.runAloneRow = true := by
  unfold joinedFacts
  rw [k0, k1, k2, k3, k4, k5, k6, k7]
  kernel_rfl

theorem lifted (os : Os) (started : os.Started) (H : Type) (enc : TypeId × Value → H) :
    ReturnsInHanded {} Tryz.checked os 4 .any (Rows.runAloneSpec.pre6 enc Tryz.prog Tryz.f4 Rows.runAloneRow.domain false) (Rows.runAloneSpec.post enc Tryz.prog Tryz.f4 false true false false) := by
  refine returnsInHanded_of_change_sized (C := Tryz.checked) own started (by kernel_rfl) Tryz.func4
    (ChangeSpec.witness6 (enc := enc) (C := Tryz.checked) false ⟨#[], #[.agg #[.int .i64 0, .int .i64 0, .int .i64 0, .slice none 0 0, .slice none 0 0, .slice none 0 0, .slice none 0 0, .slice none 0 0], .int .i64 0, .agg #[.int .i64 0, .string ⟨#[]⟩, .string ⟨#[]⟩, .string ⟨#[]⟩, .int .i64 0, .int .i64 0, .int .i64 0, .slice none 0 0, .slice none 0 0, .slice none 0 0], .slice none 0 0], []⟩ 12 (by kernel_rfl) (by kernel_rfl) (by kernel_rfl) (by kernel_rfl)) ?_
  intro W base args ds gs before hval hW hcnd hsz _
  refine law_close (tb := 4) laidOut (by kernel_rfl) rfl Tryz.underlying4 rfl ?_ hval hW hsz ((OpenArgs.cons arg_Wor (OpenArgs.cons arg_int (OpenArgs.cons arg_OpnW (OpenArgs.cons arg_lAL OpenArgs.nil))))) ((fun x h => Go.Wor.runAlone_law _ _ _ _ h.1 h.2.2.1 h.2.2.2.1.1 h.2.2.2.1.2))
  intro ds hds
  match ds, hds with
  | [d0, d1, d2, d3], _ => rfl

theorem proved : Rows.RunAloneSaid :=
  OpenClaim.holds_of_wide 4 Tryz.f4 rfl rfl rfl rfl rfl rfl rfl ⟨rfl, rfl, rfl, rfl, rfl⟩ rfl rfl rfl rfl rfl (by kernel_rfl) Tryz.func4 facts
    (of_decide_eq_true (by kernel_rfl)) (by unfold Func.isWrapper; first | (rw [if_pos (by decide +kernel)]; kernel_rfl) | (rw [if_neg (by decide +kernel)]; exact ⟨rfl, rfl⟩))
    (fun os started H enc _ => lifted os started H enc)
end Go.Proofs.YtamgiodaflkbhaaGreat.runAlone
