/- Rows of what went compared. -/
import Derived.Test.YtblcehhggncmaaaLimI
namespace Go.Lim
open Go.Ab Go.Proofs Go.Hy
set_option linter.unusedVariables false
set_option maxRecDepth 4000


deriving instance DecidableEq for Ret

theorem ret_eq {r s : Ret} : r = s ↔ r.version = s.version ∧ r.at_ = s.at_ ∧ r.gone = s.gone := by
  cases r; cases s; simp

theorem same16_sound {a b : List Ret} (hl : a.length < 5864062014700) : SoundAt Try.prog 29 [] [lR a, lR b] (Bo (decide (a = b))) [] := by
  refine SoundAt.of_wpA0 (fn := Try.f29) Try.func29 rfl ?_ rfl
  conv => whnf
  refine ⟨fun h0 => ?_, fun h0 => ?_⟩
  · conv => whnf
    have hne : decide (a = b) = false := by
      rw [decide_eq_false_iff_not]
      rintro rfl
      simp at h0
    exact ⟨.inl rfl, _, .refl _, by rw [hne]; rfl⟩
  · conv => whnf
    have hlen : a.length = b.length := by simp at h0; omega
    refine Loops.inv (fun n t1 H1 => ∃ k, k + n = a.length ∧ H1 = [] ∧ (∀ j, j < k → a[j]? = b[j]?) ∧ t1 = [lR a, lR b, .junk, .junk, Bo false, I k, .junk, .junk, .junk, .junk, .junk, .junk, .junk, .junk, .junk, .junk, .junk, .junk, .junk, .junk, .junk, .junk, .junk, .junk, .junk, .junk]) a.length ?_ ?_
    · exact ⟨_, _, Weak.mask [0, 1, 4, 5] _ _, 0, by simp, rfl, by simp, rfl⟩
    rintro n _ _ ⟨k, hk, rfl, hno, rfl⟩
    conv => whnf
    refine ⟨fun h => ?_, fun h => ?_⟩
    · conv => whnf
      have hlt : k < a.length := by simpa using h
      have hltb : k < b.length := by omega
      refine .inl ⟨by kernel_rfl, ?_⟩
      (conv => whnf); (try (refine ⟨(rfl : (_ : Heap) = _), ?_⟩; (conv => whnf)))
      refine ⟨by omega, encR a[k], by simp [hlt], ?_⟩
      (conv => whnf); (try (refine ⟨(rfl : (_ : Heap) = _), ?_⟩; (conv => whnf)))
      refine ⟨by omega, encR b[k], by simp [hltb], ?_⟩
      (conv => whnf); (try (refine ⟨(rfl : (_ : Heap) = _), ?_⟩; (conv => whnf)))
      refine ⟨by kernel_rfl, ?_⟩
      (conv => whnf); (try (refine ⟨(rfl : (_ : Heap) = _), ?_⟩; (conv => whnf)))
      refine ⟨fun h2 => ?_, fun h2 => ?_⟩
      · (conv => whnf); (try (refine ⟨(rfl : (_ : Heap) = _), ?_⟩; (conv => whnf)))
        refine .inr ⟨by simp, ?_⟩
        conv => whnf
        have hne : decide (a = b) = false := by
          rw [decide_eq_false_iff_not]
          rintro rfl
          simp at h2
        exact ⟨.inl rfl, _, .refl _, by rw [hne]; rfl⟩
      · (conv => whnf); (try (refine ⟨(rfl : (_ : Heap) = _), ?_⟩; (conv => whnf)))
        have he : a[k] = b[k] := by rw [ret_eq]; simpa using h2
        refine .inl ⟨rfl, n - 1, _, _, by omega, Weak.mask [0, 1, 4, 5] _ _, k + 1, by omega, rfl, ?_, ?_⟩
        · intro j hj
          by_cases hjk : j = k
          · subst hjk
            rw [List.getElem?_eq_getElem hlt, List.getElem?_eq_getElem hltb, he]
          · exact hno j (by omega)
        · rw [i64_nat (by omega)]; rfl
    · conv => whnf
      refine .inr ⟨by simp, ?_⟩
      conv => whnf
      have hge : ¬ k < a.length := by simpa using h
      have heq : decide (a = b) = true := by
        rw [decide_eq_true_iff]
        apply List.ext_getElem?
        intro j
        by_cases hj : j < k
        · exact hno j hj
        · rw [List.getElem?_eq_none (by omega), List.getElem?_eq_none (by omega)]
      exact ⟨.inl rfl, _, .refl _, by rw [heq]; rfl⟩

end Go.Lim
