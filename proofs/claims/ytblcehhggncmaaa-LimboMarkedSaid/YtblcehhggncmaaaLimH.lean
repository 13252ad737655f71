/- Layer 16 (limbo): the reference's Add, walked. -/
import Derived.Test.YtblcehhggncmaaaLimG
namespace Go.Lim
open Go.Ab Go.Proofs Go.Hy
set_option linter.unusedVariables false
set_option maxRecDepth 4000


theorem placeV_has (l : List Ret) (v : Int) : placeV l v ≥ 0 ↔ hasV l v = true := by
  unfold placeV hasV
  cases h : l.findIdx? (·.version == v) with
  | none =>
    rw [List.findIdx?_eq_none_iff] at h
    simp only [ge_iff_le, List.any_eq_true]
    constructor
    · intro h0; omega
    · rintro ⟨x, hx, h2⟩; rw [h x hx] at h2; cases h2
  | some i =>
    rw [List.findIdx?_eq_some_iff_getElem] at h
    obtain ⟨h1, h2, _⟩ := h
    simp only [ge_iff_le, List.any_eq_true]
    exact ⟨fun _ => ⟨_, List.getElem_mem h1, h2⟩, fun _ => by omega⟩

theorem radd_sound {l : List Ret} {v a : Int} (hl : l.length < 5864062014700) : SoundAt Try.prog 25 [] [lR l, I v, I a] (two (addV l v a)) [] := by
  refine SoundAt.of_wpA0 (fn := Try.f25) Try.func25 rfl ?_ rfl
  conv => whnf
  refine ⟨_, _, (ris_sound (l := l) (by omega)).frame rfl _, ?_⟩
  conv => whnf
  refine ⟨fun h1 => ?_, fun h1 => ?_⟩
  · conv => whnf
    refine ⟨fun h2 => ?_, fun h2 => ?_⟩
    · conv => whnf
      have e : addV l v a = ([], 1) := by simp only [addV]; rw [if_pos (.inr (.inl (by simpa using h2)))]
      exact ⟨.inl rfl, _, Weak.cell 6 rfl (WC.nil 0 3), by rw [e]; rfl⟩
    · conv => whnf
      refine ⟨fun h3 => ?_, fun h3 => ?_⟩
      · conv => whnf
        have e : addV l v a = ([], 1) := by simp only [addV]; rw [if_pos (.inr (.inr (by simpa using h3)))]
        exact ⟨.inl rfl, _, Weak.cell 6 rfl (WC.nil 0 3), by rw [e]; rfl⟩
      · conv => whnf
        have hno : ¬ (isV l = false ∨ v < 0 ∨ a < 0) := by
          have h2' : ¬ v < 0 := by simpa using h2
          have h3' : ¬ a < 0 := by simpa using h3
          simp [h1, h2', h3']
        refine ⟨_, _, (place_sound (l := l) (v := v) (by omega)).frame rfl _, ?_⟩
        conv => whnf
        refine ⟨fun h4 => ?_, fun h4 => ?_⟩
        · conv => whnf
          have h5 := (placeV_has l v).1 (by simpa using h4)
          have e : addV l v a = ([], 4) := by simp only [addV]; rw [if_neg hno, if_pos h5]
          exact ⟨.inl rfl, _, Weak.cell 6 rfl (WC.nil 0 3), by rw [e]; rfl⟩
        · have h5 : ¬ hasV l v = true := fun h => by
            have := (placeV_has l v).2 h
            simp at h4
            omega
          have e : addV l v a = (l ++ [⟨v, a, false⟩], 0) := by simp only [addV]; rw [if_neg hno, if_neg h5]
          rw [e]
          clear e h1 h2 h3 h4 h5 hno
          conv => whnf
          refine .inl ⟨.inl rfl, .inr rfl, by simp [maxLen]; omega, by show _ * 24 ≤ _; simp; omega, ?_⟩
          conv => whnf
          refine ⟨rfl, .inr rfl, by simp [maxLen]; omega, by show _ * 24 ≤ _; simp; omega, ?_⟩
          conv => whnf
          refine ⟨.inl rfl, _, Weak.low 0 _ _ rfl rfl rfl, ?_⟩
          show _ = some (C.tup [.lst 0 3 ((l ++ [Ret.mk v a false]).map encR), I 0])
          rw [List.map_append]
          rfl
  · conv => whnf
    have e : addV l v a = ([], 1) := by simp only [addV]; rw [if_pos (.inl h1)]
    exact ⟨.inl rfl, _, Weak.cell 6 rfl (WC.nil 0 3), by rw [e]; rfl⟩

end Go.Lim
