/- Layer 16 (limbo): Add, walked. -/
import Derived.Test.YtblcehhggncmaaaLimF
namespace Go.Lim
open Go.Ab Go.Proofs Go.Hy
set_option linter.unusedVariables false
set_option maxRecDepth 4000


def addV (l : List Ret) (v a : Int) : List Ret × Int :=
  if isV l = false ∨ v < 0 ∨ a < 0 then ([], 1) else if hasV l v = true then ([], 4) else (l ++ [⟨v, a, false⟩], 0)

abbrev two (r : List Ret × Int) : C := .tup [lR r.1, I r.2]

theorem encR_own (l : List Ret) : ∀ r ∈ l.map encR, ∀ c ∈ r, noOwn c = true := by
  intro r hr c hc
  obtain ⟨n, _, rfl⟩ := List.mem_map.1 hr
  simp [encR] at hc
  rcases hc with rfl | rfl | rfl <;> rfl
theorem encR_own' (l : List Ret) : (l.map encR).all (·.all noOwn) = true := by
  simp only [List.all_eq_true]
  exact encR_own l

theorem add_sound {l : List Ret} {v a : Int} (hl : l.length < 5864062014700) : SoundAt Try.prog 24 [] [lR l, I v, I a] (two (addV l v a)) [] := by
  refine SoundAt.of_wpA0 (fn := Try.f24) Try.func24 rfl ?_ rfl
  conv => whnf
  refine ⟨_, _, (is_sound (l := l) (by omega)).frame rfl _, ?_⟩
  conv => whnf
  refine ⟨fun h1 => ?_, fun h1 => ?_⟩
  · conv => whnf
    refine ⟨fun h2 => ?_, fun h2 => ?_⟩
    · conv => whnf
      have e : addV l v a = ([], 1) := by simp only [addV]; rw [if_pos (.inr (.inl (by simpa using h2)))]
      exact ⟨.inl rfl, _, Weak.cell 6 rfl (WC.nil 0 3), by rw [e]; rfl⟩
    · conv => whnf
      refine ⟨fun h3 => ?_, fun h3 => ?_⟩
      · conv => whnf
        have e : addV l v a = ([], 1) := by simp only [addV]; rw [if_pos (.inr (.inr (by simpa using h3)))]
        exact ⟨.inl rfl, _, Weak.cell 6 rfl (WC.nil 0 3), by rw [e]; rfl⟩
      · conv => whnf
        have hno : ¬ (isV l = false ∨ v < 0 ∨ a < 0) := by
          have h2' : ¬ v < 0 := by simpa using h2
          have h3' : ¬ a < 0 := by simpa using h3
          simp [h1, h2', h3']
        refine ⟨_, _, (has_sound (l := l) (v := v) (by omega)).frame rfl _, ?_⟩
        conv => whnf
        refine ⟨fun h4 => ?_, fun h4 => ?_⟩
        · conv => whnf
          have e : addV l v a = ([], 4) := by simp only [addV]; rw [if_neg hno, if_pos h4]
          exact ⟨.inl rfl, _, Weak.cell 6 rfl (WC.nil 0 3), by rw [e]; rfl⟩
        · conv => whnf
          have e : addV l v a = (l ++ [⟨v, a, false⟩], 0) := by simp only [addV]; rw [if_neg hno, if_neg (by simp [h4])]
          refine ⟨.inr rfl, by omega, by omega, by omega, by omega, by simp, ?_⟩
          conv => whnf
          have ex : List.take (((l.map encR).length : Int).toNat - 0) (List.drop 0 (l.map encR)) = l.map encR := by rw [List.drop_zero, List.take_of_length_le (by simp)]
          rw [ex]
          refine .inl ⟨.inr rfl, .inr rfl, by simp [maxLen]; omega, by show _ * 24 ≤ _; simp; omega, ?_⟩
          conv => whnf
          refine ⟨.inl rfl, _, Weak.low 0 _ _ rfl rfl rfl, ?_⟩
          rw [e]
          show _ = some (C.tup [.lst 0 3 ((l ++ [Ret.mk v a false]).map encR), I 0])
          rw [List.map_append]
          rfl
  · conv => whnf
    have e : addV l v a = ([], 1) := by simp only [addV]; rw [if_pos (.inl h1)]
    exact ⟨.inl rfl, _, Weak.cell 6 rfl (WC.nil 0 3), by rw [e]; rfl⟩

end Go.Lim
