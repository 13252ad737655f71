/- Layer 16 (limbo): the reference's place and Is, walked. -/
import Derived.Test.YtblcehhggncmaaaLimD
namespace Go.Lim
open Go.Ab Go.Proofs Go.Hy
set_option linter.unusedVariables false
set_option maxRecDepth 4000


def placeV (l : List Ret) (v : Int) : Int := match l.findIdx? (·.version == v) with | some i => (i : Int) | none => -1

theorem placeV_at {l : List Ret} {v : Int} {k : Nat} (hlt : k < l.length) (hno : ∀ j, j < k → ∀ r, l[j]? = some r → (r.version == v) = false) (h : (l[k].version == v) = true) : placeV l v = k := by
  have : l.findIdx? (·.version == v) = some k := by
    rw [List.findIdx?_eq_some_iff_getElem]
    refine ⟨hlt, h, fun j hj => ?_⟩
    simp [hno j hj _ (List.getElem?_eq_getElem (by omega))]
  unfold placeV
  rw [this]
theorem placeV_none {l : List Ret} {v : Int} {k : Nat} (hk : ¬ k < l.length) (hno : ∀ j, j < k → ∀ r, l[j]? = some r → (r.version == v) = false) : placeV l v = -1 := by
  have : l.findIdx? (·.version == v) = none := by
    rw [List.findIdx?_eq_none_iff]
    intro x hx
    obtain ⟨j, hj⟩ := List.mem_iff_getElem?.1 hx
    have hjl := (List.getElem?_eq_some_iff.1 hj).1
    exact hno j (by omega) x hj
  unfold placeV
  rw [this]

theorem place_sound {l : List Ret} {v : Int} (hl : l.length < 5864062014700) : SoundAt Try.prog 50 [] [lR l, I v] (I (placeV l v)) [] := by
  refine SoundAt.of_wpA0 (fn := Try.f50) Try.func50 rfl ?_ rfl
  conv => whnf
  refine Loops.inv (fun n t1 H1 => ∃ k, k + n = l.length ∧ H1 = [] ∧ (∀ j, j < k → ∀ r, l[j]? = some r → (r.version == v) = false) ∧
     t1 = [lR l, I v, .junk, .junk, I 0, I k, .junk, .junk, .junk, .junk, .junk, .junk, .junk, .junk, .junk, .junk, .junk, .junk, .junk, .junk]) l.length ?_ ?_
  · exact ⟨_, _, Weak.mask [0, 1, 4, 5] _ _, 0, by simp, rfl, by simp, rfl⟩
  rintro n _ _ ⟨k, hk, rfl, hno, rfl⟩
  conv => whnf
  refine ⟨fun h => ?_, fun h => ?_⟩
  · conv => whnf
    have hlt : k < l.length := by simpa using h
    refine ⟨by omega, encR l[k], by simp [hlt], ?_⟩
    conv => whnf
    refine ⟨fun h2 => ?_, fun h2 => ?_⟩
    · conv => whnf
      refine .inr ⟨by simp, ?_⟩
      conv => whnf
      exact ⟨.inl rfl, _, .refl _, by rw [placeV_at hlt hno h2]; rfl⟩
    · conv => whnf
      refine .inl ⟨rfl, n - 1, _, _, by omega, Weak.mask [0, 1, 4, 5] _ _, k + 1, by omega, rfl, ?_, ?_⟩
      · intro j hj r hr
        by_cases hjk : j = k
        · subst hjk
          rw [List.getElem?_eq_getElem hlt] at hr
          cases hr
          exact h2
        · exact hno j (by omega) r hr
      · rw [i64_nat (by omega)]; rfl
  · conv => whnf
    refine .inr ⟨by simp, ?_⟩
    conv => whnf
    have hge : ¬ k < l.length := by simpa using h
    exact ⟨.inl rfl, _, .refl _, by rw [placeV_none hge hno]; rfl⟩

def okW (l : List Ret) (i : Nat) (r : Ret) : Bool := !(decide (r.version < 0)) && !(decide (r.at_ < 0)) && (placeV l r.version == (i : Int))

theorem okW_eq {l : List Ret} {i : Nat} (h : i < l.length) : okW l i l[i] = okV l i l[i] := by
  unfold okW okV
  congr 1
  unfold placeV hasV
  cases hf : l.findIdx? (·.version == l[i].version) with
  | none =>
    rw [List.findIdx?_eq_none_iff] at hf
    have := hf l[i] (List.getElem_mem h)
    simp at this
  | some j =>
    rw [List.findIdx?_eq_some_iff_getElem] at hf
    obtain ⟨h1, h2, h3⟩ := hf
    rw [Bool.eq_iff_iff]
    simp only [beq_iff_eq, Bool.not_eq_true', List.any_eq_false]
    constructor
    · intro e x hx
      have e' : j = i := by omega
      subst e'
      obtain ⟨m, hm, rfl⟩ := List.mem_iff_getElem.1 hx
      simp at hm
      rw [List.getElem_take]
      simpa using h3 m (by omega)
    · intro hall
      rcases Nat.lt_trichotomy j i with hlt | heq | hlt
      · have := hall l[j] (List.mem_iff_getElem.2 ⟨j, by simp; omega, by rw [List.getElem_take]⟩)
        exact absurd (by simpa using h2) this
      · omega
      · exact absurd (by simp) (h3 i hlt)

theorem isW_eq (l : List Ret) : decide (∀ i, (h : i < l.length) → okW l i l[i] = true) = isV l := by
  unfold isV
  congr 1
  apply propext
  exact ⟨fun h i hi => by rw [← okW_eq hi]; exact h i hi, fun h i hi => by rw [okW_eq hi]; exact h i hi⟩

theorem ris_sound {l : List Ret} (hl : l.length < 5864062014700) : SoundAt Try.prog 34 [] [lR l] (Bo (isV l)) [] := by
  refine SoundAt.of_wpA0 (fn := Try.f34) Try.func34 rfl ?_ rfl
  conv => whnf
  refine Loops.inv (fun n t1 H1 => ∃ k, k + n = l.length ∧ H1 = [] ∧ (∀ j, j < k → (h : j < l.length) → okV l j l[j] = true) ∧
     t1 = [lR l, .junk, Bo false, I k, .junk, .junk, .junk, .junk, .junk, .junk, .junk, .junk, .junk, .junk, .junk, .junk, .junk, .junk, .junk, .junk, .junk, .junk, .junk, .junk, .junk, .junk, .junk, .junk, .junk, .junk, .junk, .junk, .junk, .junk, .junk]) l.length ?_ ?_
  · exact ⟨_, _, Weak.mask [0, 2, 3] _ _, 0, by simp, rfl, by simp, rfl⟩
  rintro n _ _ ⟨k, hk, rfl, hno, rfl⟩
  conv => whnf
  refine ⟨fun h => ?_, fun h => ?_⟩
  · conv => whnf
    have hlt : k < l.length := by simpa using h
    have no : okW l k l[k] = false → isV l = false := fun e => isV_false hlt (by rw [← okW_eq hlt]; exact e)
    have hel : (l.map encR)[(k : Int).toNat]? = some (encR l[k]) := by simp [hlt]
    refine ⟨by omega, encR l[k], hel, ?_⟩
    conv => whnf
    refine ⟨fun h1 => ?_, fun h1 => ?_⟩
    · conv => whnf
      refine .inr ⟨by simp, ?_⟩
      conv => whnf
      exact ⟨.inl rfl, _, .refl _, by rw [no (by simp [okW, h1])]; rfl⟩
    · conv => whnf
      refine ⟨by omega, encR l[k], hel, ?_⟩
      conv => whnf
      refine ⟨fun h2 => ?_, fun h2 => ?_⟩
      · conv => whnf
        refine .inr ⟨by simp, ?_⟩
        conv => whnf
        exact ⟨.inl rfl, _, .refl _, by rw [no (by simp [okW, h2])]; rfl⟩
      · conv => whnf
        refine ⟨by omega, encR l[k], hel, ?_⟩
        conv => whnf
        refine ⟨_, _, (place_sound (v := l[k].version) hl).frame rfl _, ?_⟩
        conv => whnf
        refine ⟨fun h3 => ?_, fun h3 => ?_⟩
        · conv => whnf
          refine .inr ⟨by simp, ?_⟩
          conv => whnf
          have h4 : placeV l l[k].version ≠ (k : Int) := by simpa using h3
          exact ⟨.inl rfl, _, .refl _, by rw [no (by simp [okW, h4])]; rfl⟩
        · conv => whnf
          have h4 : placeV l l[k].version = (k : Int) := by simpa using h3
          refine .inl ⟨rfl, n - 1, _, _, by omega, Weak.mask [0, 2, 3] _ _, k + 1, by omega, rfl, ?_, ?_⟩
          · intro j hj hjl
            by_cases hjk : j = k
            · subst hjk
              rw [← okW_eq hlt]
              simp only [okW, h1, h2, h4]
              simp
            · exact hno j (by omega) hjl
          · rw [i64_nat (by omega)]; rfl
  · conv => whnf
    refine .inr ⟨by simp, ?_⟩
    conv => whnf
    have : isV l = true := by
      unfold isV
      rw [decide_eq_true_iff]
      intro i hi
      have : ¬ k < l.length := by simpa using h
      exact hno i (by omega) hi
    exact ⟨.inl rfl, _, .refl _, by rw [this]; rfl⟩

end Go.Lim
