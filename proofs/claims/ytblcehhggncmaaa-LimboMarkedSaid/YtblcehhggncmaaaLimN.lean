/- Layer 16 (limbo): plain laws of what is due. -/
import Derived.Test.YtblcehhggncmaaaLimM
namespace Go.Lim
open Go.Ab Go.Proofs Go.Hy
set_option linter.unusedVariables false

theorem hasV_append (l m : List Ret) (v : Int) : hasV (l ++ m) v = (hasV l v || hasV m v) := by simp [hasV]

theorem isV_iff {l : List Ret} : isV l = true ↔ ∀ i, (h : i < l.length) → okV l i l[i] = true := by simp [isV]

theorem isV_snoc {l : List Ret} {r : Ret} (h : isV l = true) (h1 : 0 ≤ r.version) (h2 : 0 ≤ r.at_) (h3 : hasV l r.version = false) : isV (l ++ [r]) = true := by
  rw [isV_iff] at h ⊢
  intro i hi
  by_cases hlt : i < l.length
  · have := h i hlt
    unfold okV at this ⊢
    rw [List.getElem_append_left hlt, List.take_append_of_le_length (by omega)]
    exact this
  · have e : i = l.length := by simp at hi; omega
    subst e
    unfold okV
    simp [h3, Int.not_lt.2 h1, Int.not_lt.2 h2]

theorem dueQ_append_left {l m : List Ret} {now : Int} {i : Nat} (h : i < l.length) : dueQ (l ++ m) now i = dueQ l now i := by
  unfold dueQ
  rw [List.getElem?_append_left h]

theorem dueV_snoc (l : List Ret) (r : Ret) (now : Int) : dueV (l ++ [r]) now = dueV l now ++ if !r.gone && safeV r.at_ now then [l.length] else [] := by
  unfold dueV
  rw [List.length_append, List.length_singleton, List.range_succ, List.filter_append]
  congr 1
  · apply List.filter_congr
    intro i hi
    exact dueQ_append_left (by simpa using hi)
  · have : dueQ (l ++ [r]) now l.length = (!r.gone && safeV r.at_ now) := by simp [dueQ]
    rw [List.filter_cons, this]
    simp

theorem dueV_lt {l : List Ret} {now : Int} {i : Nat} (h : i ∈ dueV l now) : i < l.length := by
  unfold dueV at h
  simp at h
  exact h.1

theorem safeV_early {a : Int} (h : a ≤ 1000000) : safeV a (a + 1) = false := by
  unfold safeV; rw [Bool.and_eq_false_iff]; right; simp
theorem safeV_late {a : Int} (h : a ≤ 1000000) : safeV a (a + 2) = true := by
  simp [safeV]; omega

theorem markV_snoc {l : List Ret} {r : Ret} (h : isV (l ++ [r]) = true) (hg : r.gone = false) : markV (l ++ [r]) l.length = (l ++ [⟨r.version, r.at_, true⟩], 0) := by
  rw [markV_yes h (by simp) (by simpa using hg)]
  simp

theorem addV_ok {l : List Ret} {v a : Int} (h : (addV l v a).2 = 0) : addV l v a = (l ++ [⟨v, a, false⟩], 0) ∧ isV l = true ∧ 0 ≤ v ∧ 0 ≤ a ∧ hasV l v = false := by
  unfold addV at h ⊢
  split at h
  · simp at h
  · rename_i h1
    split at h
    · simp at h
    · rename_i h2
      refine ⟨by rw [if_neg h1, if_neg h2], ?_, by omega, by omega, by simpa using h2⟩
      cases hv : isV l with
      | true => rfl
      | false => exact absurd (.inl hv) h1

end Go.Lim
