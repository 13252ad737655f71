/- Layer 16 (limbo): what each function hands back, over abstract states. -/
import Derived.Test.YtblcehhggncmaaaLimA
namespace Go.Lim
open Go.Ab Go.Proofs Go.Hy
set_option linter.unusedVariables false
set_option maxRecDepth 4000


def okV (l : List Ret) (i : Nat) (r : Ret) : Bool := !(decide (r.version < 0)) && !(decide (r.at_ < 0)) && !(hasV (l.take i) r.version)
def isV (l : List Ret) : Bool := decide (∀ i, (h : i < l.length) → okV l i l[i] = true)

theorem isV_false {l : List Ret} {k : Nat} (hk : k < l.length) (h : okV l k l[k] = false) : isV l = false := by
  unfold isV
  rw [decide_eq_false_iff_not]
  intro h2
  rw [h2 k hk] at h
  cases h

theorem is_sound {l : List Ret} (hl : l.length < 4611686018427387904) : SoundAt Try.prog 33 [] [lR l] (Bo (isV l)) [] := by
  refine SoundAt.of_wpA0 (fn := Try.f33) Try.func33 rfl ?_ rfl
  conv => whnf
  refine Loops.inv (fun n t1 H1 => ∃ k, k + n = l.length ∧ H1 = [] ∧ (∀ j, j < k → (h : j < l.length) → okV l j l[j] = true) ∧
     t1 = [lR l, .junk, Bo false, .junk, .junk, lR l, I (l.map encR).length, I k, .junk, .junk, .junk, .junk, .junk, .junk, .junk, .junk, .junk, .junk, .junk, .junk, .junk, .junk, .junk, .junk, .junk, .junk, .junk, .junk, .junk]) l.length ?_ ?_
  · exact ⟨_, _, Weak.mask [0, 2, 5, 6, 7] _ _, 0, by simp, rfl, by simp, rfl⟩
  rintro n _ _ ⟨k, hk, rfl, hno, rfl⟩
  conv => whnf
  refine ⟨fun h => ?_, fun h => ?_⟩
  · conv => whnf
    have hlt : k < l.length := by simpa using h
    refine ⟨by omega, encR l[k], by simp [hlt], ?_⟩
    conv => whnf
    have no : okV l k l[k] = false → isV l = false := isV_false hlt
    refine .inl ⟨by kernel_rfl, ?_⟩
    (conv => whnf); (try (refine ⟨(rfl : (_ : Heap) = _), ?_⟩; (conv => whnf)))
    refine ⟨fun h1 => ?_, fun h1 => ?_⟩
    · (conv => whnf); (try (refine ⟨(rfl : (_ : Heap) = _), ?_⟩; (conv => whnf)))
      refine .inr ⟨by simp, ?_⟩
      conv => whnf
      exact ⟨.inl rfl, _, .refl _, by rw [no (by simp [okV, h1])]; rfl⟩
    · (conv => whnf); (try (refine ⟨(rfl : (_ : Heap) = _), ?_⟩; (conv => whnf)))
      refine ⟨fun h2 => ?_, fun h2 => ?_⟩
      · (conv => whnf); (try (refine ⟨(rfl : (_ : Heap) = _), ?_⟩; (conv => whnf)))
        refine .inr ⟨by simp, ?_⟩
        conv => whnf
        exact ⟨.inl rfl, _, .refl _, by rw [no (by simp [okV, h2])]; rfl⟩
      · (conv => whnf); (try (refine ⟨(rfl : (_ : Heap) = _), ?_⟩; (conv => whnf)))
        refine ⟨.inr rfl, ?_⟩
        conv => whnf
        refine ⟨by omega, by omega, by simp; omega, ?_⟩
        (conv => whnf); (try (refine ⟨(rfl : (_ : Heap) = _), ?_⟩; (conv => whnf)))
        have e : ((l.map encR).drop 0).take ((k : Int).toNat - 0) = (l.take k).map encR := by simp [List.map_take]
        rw [e]
        refine ⟨_, _, (has_sound (l := l.take k) (v := l[k].version) (by simp; omega)).frame rfl _, ?_⟩
        conv => whnf
        refine ⟨fun h3 => ?_, fun h3 => ?_⟩
        · (conv => whnf); (try (refine ⟨(rfl : (_ : Heap) = _), ?_⟩; (conv => whnf)))
          refine .inr ⟨by simp, ?_⟩
          conv => whnf
          exact ⟨.inl rfl, _, .refl _, by rw [no (by simp [okV, h3])]; rfl⟩
        · (conv => whnf); (try (refine ⟨(rfl : (_ : Heap) = _), ?_⟩; (conv => whnf)))
          refine .inl ⟨rfl, n - 1, _, _, by omega, Weak.keep [0, 2, 5, 6, 7] 0 _ _ rfl rfl rfl rfl, k + 1, by omega, rfl, ?_, ?_⟩
          · intro j hj hjl
            by_cases hjk : j = k
            · subst hjk
              simp [okV, h1, h2, h3]
            · exact hno j (by omega) hjl
          · rw [i64_nat (by omega)]; rfl
  · conv => whnf
    refine .inr ⟨by simp, ?_⟩
    conv => whnf
    refine ⟨.inl rfl, _, .refl _, ?_⟩
    have : isV l = true := by
      unfold isV
      rw [decide_eq_true_iff]
      intro i hi
      have : ¬ k < l.length := by simpa using h
      exact hno i (by omega) hi
    rw [this]
    rfl

end Go.Lim
