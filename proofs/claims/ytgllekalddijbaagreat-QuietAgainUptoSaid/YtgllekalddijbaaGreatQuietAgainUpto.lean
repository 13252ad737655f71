/- Proof of QuietAgainUptoSaid: where what it reads is of bulk at most 1048576, hydrant/hydrantlaw30.QuietAgain returns true, and its arguments read behind the call as before. -/
import Derived.Test.YtgllekalddijbaaGreatRows
import Derived.OpenShut
import Derived.JoinedOf
import Derived.JoinedCond
import Derived.Test.YtgllekalddijbaaGreatU2
import Derived.Test.YtgllekalddijbaaGreatUO
namespace Go.Proofs.YtgllekalddijbaaGreat.quietAgainUpto
open Go.Ab Go.HyU
set_option linter.unusedVariables false
set_option maxRecDepth 100000

abbrev spec : OpenSpec := Rows.OpenSpec.upto Rows.quietAgainSpec
theorem own : ownKnob Tryz.prog.godebug = none := by kernel_rfl
theorem laidOut : laidOutB Tryz.prog = true := by kernel_rfl
theorem k0 : laidOutB Tryz.pinned.checked.prog = true := laidOut
theorem k1 : (Rows.quietAgainUptoRow.inPlace == Tryz.pinned.checked.prog.inPlace 7) = true := by kernel_rfl
theorem k2 : (Rows.quietAgainUptoRow.unfollowed == Tryz.pinned.checked.prog.unfollowed 7) = true := by kernel_rfl
theorem k3 : (Rows.quietAgainUptoRow.recurses == Tryz.pinned.checked.prog.recurses 7) = true := by kernel_rfl
theorem k4 : (Rows.quietAgainUptoRow.named == Tryz.pinned.checked.prog.varsNamed 7) = true := by kernel_rfl
theorem k5 : mapsRowed Tryz.pinned.checked.prog = true := by kernel_rfl
theorem k6 : Tryz.pinned.checked.prog.stopsHeard = true := by kernel_rfl
theorem k7 : Tryz.pinned.checked.prog.mayEnter = true := by kernel_rfl
theorem facts : joinedFacts Tryz.pinned.checked.prog 7 Tryz.f7 spec.bare Rows.quietAgainUptoRow = true := by
  unfold joinedFacts
  rw [k0, k1, k2, k3, k4, k5, k6, k7]
  kernel_rfl

theorem some_of {α : Type} {o : Option α} {q : α → Bool} (h : (match o with | some x => q x | none => false) = true) : ∃ x, o = some x ∧ q x = true := by
  cases o with
  | none => cases h
  | some x => exact ⟨x, rfl, h⟩
theorem lifted (os : Os) (started : os.Started) (H : Type) (enc : TypeId × Value → H) (F : Stop.Interp) :
    ReturnsInHanded {} Tryz.checked os 7 .any (spec.pre6 enc Tryz.prog Tryz.f7 Rows.quietAgainUptoRow.domain false) ((spec.at F).post enc Tryz.prog Tryz.f7 false true false false) := by
  obtain ⟨x, hx, hxb⟩ : ∃ x, DataW.whole enc Tryz.checked.prog (World.plainHolding Tryz.checked.prog os ⟨#[], #[.agg #[.int .i64 0, .int .i64 0, .int .i64 0, .slice none 0 0, .slice none 0 0, .slice none 0 0, .slice none 0 0, .slice none 0 0], .int .i64 0], []⟩).memory Tryz.f7.params.toList spec.vars false (#[.agg #[.int .i64 0, .int .i64 0, .int .i64 0, .slice none 0 0, .slice none 0 0, .slice none 0 0, .slice none 0 0, .slice none 0 0], .int .i64 0] : Array Value).toList 12 = some x ∧ Rows.uptoSmall H (x.1 ++ x.2.1) = true := some_of (q := fun x : List (DataW H) × List (DataW H) × List MemPlace => Rows.uptoSmall H (x.1 ++ x.2.1)) (by kernel_rfl)
  refine returnsInHanded_of_cond (C := Tryz.checked) (k := Rows.uptoSmall) rfl own started (by kernel_rfl) Tryz.func7
    (OpenSpec.witness (enc := enc) (C := Tryz.checked) (k := Rows.uptoSmall) rfl false ⟨#[], #[.agg #[.int .i64 0, .int .i64 0, .int .i64 0, .slice none 0 0, .slice none 0 0, .slice none 0 0, .slice none 0 0, .slice none 0 0], .int .i64 0], []⟩ 12 (by kernel_rfl) (by kernel_rfl) (by kernel_rfl) hx rfl hxb) ?_
  intro W base args ds gs before hval hW hcnd hsm _
  refine Go.AbU.law_close (tb := 4) laidOut (by kernel_rfl) rfl Tryz.underlying4 rfl ?_ hval hW ?_ ((Go.AbU.OpenArgs.cons arg_Wor (Go.AbU.OpenArgs.cons arg_int Go.AbU.OpenArgs.nil))) ((fun x h => Go.Wor.quietAgain_sound _ _ h.1))
  · intro ds hds
    match ds, hds with
    | [d0, d1], _ => rfl
  · exact Go.AbU.small_w hsm _ (by kernel_rfl)

theorem proved : Rows.QuietAgainUptoSaid :=
  OpenClaim.holds_of_cond 7 Tryz.f7 rfl rfl rfl rfl rfl rfl rfl ⟨rfl, rfl, rfl, rfl, rfl⟩ rfl rfl rfl rfl rfl (by kernel_rfl) Tryz.func7 facts
    (of_decide_eq_true (by kernel_rfl)) (by unfold Func.isWrapper; first | (rw [if_pos (by decide +kernel)]; kernel_rfl) | (rw [if_neg (by decide +kernel)]; exact ⟨rfl, rfl⟩))
    (fun os started H enc _ F => lifted os started H enc F)
end Go.Proofs.YtgllekalddijbaaGreat.quietAgainUpto
