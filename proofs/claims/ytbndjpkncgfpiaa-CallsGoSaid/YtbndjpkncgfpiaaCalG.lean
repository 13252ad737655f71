/- Layer 10 (calls): the document's answer, walked. -/
import Derived.Test.YtbndjpkncgfpiaaCalF
namespace Go.Cal
open Go.Ab Go.Proofs Go.Hy
set_option linter.unusedVariables false
set_option maxRecDepth 100000

abbrev placeI (l : List Cal) (t o : Int) : Int := match placeV l t o with | some n => (n : Int) | none => -1

theorem place_at {l : List Cal} {t o : Int} {k : Nat} (hk : k < l.length) (hr : ∀ j, (h : j < l.length) → j < k → ¬ (l[j].thread = t ∧ l[j].op = o)) (h1 : l[k].thread = t) (h2 : l[k].op = o) : placeV l t o = some k := by
  unfold placeV
  rw [List.findIdx?_eq_some_iff_getElem]
  refine ⟨hk, by simp [h1, h2], fun j hj => ?_⟩
  have := hr j (by omega) hj
  simpa using this
theorem place_no {l : List Cal} {t o : Int} (hr : ∀ j, (h : j < l.length) → j < l.length → ¬ (l[j].thread = t ∧ l[j].op = o)) : placeV l t o = none := by
  unfold placeV
  rw [List.findIdx?_eq_none_iff]
  intro c hc
  obtain ⟨j, hj, rfl⟩ := List.mem_iff_getElem.1 hc
  have := hr j hj hj
  simpa using this
theorem busy_at {l : List Cal} {t : Int} {k : Nat} (hk : k < l.length) (h1 : l[k].thread = t) (h2 : l[k].to_ < 0) : busyV l t = true := by
  unfold busyV
  rw [List.any_eq_true]
  exact ⟨l[k], List.getElem_mem hk, by simp [h1, h2]⟩
theorem busy_no {l : List Cal} {t : Int} (hr : ∀ j, (h : j < l.length) → j < l.length → ¬ (l[j].thread = t ∧ l[j].to_ < 0)) : busyV l t = false := by
  unfold busyV
  rw [List.any_eq_false]
  intro c hc
  obtain ⟨j, hj, rfl⟩ := List.mem_iff_getElem.1 hc
  have := hr j hj hj
  simpa using this

theorem place_sound (l : List Cal) (X : Ob) (t o : Int) (hl : l.length < 4611686018427387904) :
    SoundAt Try.prog 64 [⟨2, 38, 18, (l).map encCal, 0⟩, X] [.sl 0 [] 18 0 l.length false, I t, I o] (I (placeI l t o)) [⟨2, 38, 18, (l).map encCal, 0⟩, X] := by
  refine SoundAt.of_wpA (fn := Try.f64) Try.func64 rfl ?_
  have hlm : (l.map encCal).length = l.length := List.length_map ..
  conv => whnf
  refine Loops.seq l.length (fun k => [.sl 0 [] 18 0 l.length false, I t, I o, .junk, .junk, .junk, I 0, I k, .junk, .junk, .junk, .junk, .junk, .junk, .junk, .junk, .junk, .junk, .junk, .junk, .junk, .junk, .junk, .junk, .junk, .junk, .junk, .junk, .junk, .junk, .junk]) (fun k => [⟨2, 38, 18, (l).map encCal, 0⟩, X]) (fun k => ∀ j, (h : j < l.length) → j < k → ¬ (l[j].thread = t ∧ l[j].op = o)) ?_ (by simp) (fun k hk hr => ?_) (fun hr => ?_)
  · exact Weak.cov (by (conv => whnf); (repeat (refine ⟨rfl, ?_⟩; (conv => whnf))); exact trivial)
  · have hg : (l.map encCal)[k]? = some (encCal l[k]) := by rw [List.getElem?_map, List.getElem?_eq_getElem hk]; rfl
    conv => whnf
    refine ⟨fun _ => ?_, fun h => absurd h (by simp; omega)⟩
    conv => whnf
    refine ⟨by omega, by rw [toNat_cast]; exact hk, ?_⟩
    (conv => whnf); (try (refine ⟨(rfl : (_ : Heap) = _), ?_⟩; (conv => whnf)))
    rw [toNat_cast, Nat.zero_add]
    refine ⟨_, hg, Nat.le_of_ble_eq_true rfl, ?_⟩
    (conv => whnf); (try (refine ⟨(rfl : (_ : Heap) = _), ?_⟩; (conv => whnf)))
    refine ⟨fun h1 => ?_, fun h1 => ?_⟩
    · (conv => whnf); (try (refine ⟨(rfl : (_ : Heap) = _), ?_⟩; (conv => whnf)))
      refine ⟨by omega, by rw [toNat_cast]; exact hk, ?_⟩
      (conv => whnf); (try (refine ⟨(rfl : (_ : Heap) = _), ?_⟩; (conv => whnf)))
      rw [toNat_cast, Nat.zero_add]
      refine ⟨_, hg, Nat.le_of_ble_eq_true rfl, ?_⟩
      (conv => whnf); (try (refine ⟨(rfl : (_ : Heap) = _), ?_⟩; (conv => whnf)))
      refine ⟨fun h2 => ?_, fun h2 => ?_⟩
      · (conv => whnf); (try (refine ⟨(rfl : (_ : Heap) = _), ?_⟩; (conv => whnf)))
        refine .inr ⟨by simp, ?_⟩
        conv => whnf
        have e : placeI l t o = (k : Int) := by unfold placeI; rw [place_at hk hr (by simpa using h1) (by simpa using h2)]
        rw [e]
        exact ⟨.inl rfl, _, .refl _, rfl, rfl⟩
      · (conv => whnf); (try (refine ⟨(rfl : (_ : Heap) = _), ?_⟩; (conv => whnf)))
        refine .inl ⟨rfl, ?_, fun j h hj => ?_⟩
        · rw [i64_nat (by omega)]
          exact Weak.cov (by (conv => whnf); (repeat (refine ⟨rfl, ?_⟩; (conv => whnf))); exact trivial)
        · by_cases e : j = k
          · subst e; simp at h2; simp [h2]
          · exact hr j h (by omega)
    · (conv => whnf); (try (refine ⟨(rfl : (_ : Heap) = _), ?_⟩; (conv => whnf)))
      refine .inl ⟨rfl, ?_, fun j h hj => ?_⟩
      · rw [i64_nat (by omega)]
        exact Weak.cov (by (conv => whnf); (repeat (refine ⟨rfl, ?_⟩; (conv => whnf))); exact trivial)
      · by_cases e : j = k
        · subst e; simp at h1; simp [h1]
        · exact hr j h (by omega)
  · conv => whnf
    refine ⟨fun h => absurd h (by simp), fun h => ?_⟩
    conv => whnf
    refine ⟨by simp, ?_⟩
    conv => whnf
    have e : placeI l t o = -1 := by unfold placeI; rw [place_no hr]
    rw [e]
    exact ⟨.inl rfl, _, .refl _, rfl, rfl⟩

theorem busy_sound (l : List Cal) (X : Ob) (t : Int) (hl : l.length < 4611686018427387904) :
    SoundAt Try.prog 65 [⟨2, 38, 18, (l).map encCal, 0⟩, X] [.sl 0 [] 18 0 l.length false, I t] (Bo (busyV l t)) [⟨2, 38, 18, (l).map encCal, 0⟩, X] := by
  refine SoundAt.of_wpA (fn := Try.f65) Try.func65 rfl ?_
  have hlm : (l.map encCal).length = l.length := List.length_map ..
  conv => whnf
  refine Loops.seq l.length (fun k => [.sl 0 [] 18 0 l.length false, I t, .junk, .junk, Bo false, I k, .junk, .junk, .junk, .junk, .junk, .junk, .junk, .junk, .junk, .junk, .junk, .junk, .junk, .junk, .junk, .junk, .junk, .junk, .junk, .junk, .junk]) (fun k => [⟨2, 38, 18, (l).map encCal, 0⟩, X]) (fun k => ∀ j, (h : j < l.length) → j < k → ¬ (l[j].thread = t ∧ l[j].to_ < 0)) ?_ (by simp) (fun k hk hr => ?_) (fun hr => ?_)
  · exact Weak.cov (by (conv => whnf); (repeat (refine ⟨rfl, ?_⟩; (conv => whnf))); exact trivial)
  · have hg : (l.map encCal)[k]? = some (encCal l[k]) := by rw [List.getElem?_map, List.getElem?_eq_getElem hk]; rfl
    conv => whnf
    refine ⟨fun _ => ?_, fun h => absurd h (by simp; omega)⟩
    conv => whnf
    refine ⟨by omega, by rw [toNat_cast]; exact hk, ?_⟩
    (conv => whnf); (try (refine ⟨(rfl : (_ : Heap) = _), ?_⟩; (conv => whnf)))
    rw [toNat_cast, Nat.zero_add]
    refine ⟨_, hg, Nat.le_of_ble_eq_true rfl, ?_⟩
    (conv => whnf); (try (refine ⟨(rfl : (_ : Heap) = _), ?_⟩; (conv => whnf)))
    refine ⟨fun h1 => ?_, fun h1 => ?_⟩
    · (conv => whnf); (try (refine ⟨(rfl : (_ : Heap) = _), ?_⟩; (conv => whnf)))
      refine ⟨by omega, by rw [toNat_cast]; exact hk, ?_⟩
      (conv => whnf); (try (refine ⟨(rfl : (_ : Heap) = _), ?_⟩; (conv => whnf)))
      rw [toNat_cast, Nat.zero_add]
      refine ⟨_, hg, Nat.le_of_ble_eq_true rfl, ?_⟩
      (conv => whnf); (try (refine ⟨(rfl : (_ : Heap) = _), ?_⟩; (conv => whnf)))
      refine ⟨fun h2 => ?_, fun h2 => ?_⟩
      · (conv => whnf); (try (refine ⟨(rfl : (_ : Heap) = _), ?_⟩; (conv => whnf)))
        refine .inr ⟨by simp, ?_⟩
        conv => whnf
        rw [busy_at hk (by simpa using h1) (by simpa using h2)]
        exact ⟨.inl rfl, _, .refl _, rfl, rfl⟩
      · (conv => whnf); (try (refine ⟨(rfl : (_ : Heap) = _), ?_⟩; (conv => whnf)))
        refine .inl ⟨rfl, ?_, fun j h hj => ?_⟩
        · rw [i64_nat (by omega)]
          exact Weak.cov (by (conv => whnf); (repeat (refine ⟨rfl, ?_⟩; (conv => whnf))); exact trivial)
        · by_cases e : j = k
          · subst e; simp at h2; simp [h2]
          · exact hr j h (by omega)
    · (conv => whnf); (try (refine ⟨(rfl : (_ : Heap) = _), ?_⟩; (conv => whnf)))
      refine .inl ⟨rfl, ?_, fun j h hj => ?_⟩
      · rw [i64_nat (by omega)]
        exact Weak.cov (by (conv => whnf); (repeat (refine ⟨rfl, ?_⟩; (conv => whnf))); exact trivial)
      · by_cases e : j = k
        · subst e; simp at h1; simp [h1]
        · exact hr j h (by omega)
  · conv => whnf
    refine ⟨fun h => absurd h (by simp), fun h => ?_⟩
    conv => whnf
    refine ⟨by simp, ?_⟩
    conv => whnf
    rw [busy_no hr]
    exact ⟨.inl rfl, _, .refl _, rfl, rfl⟩

theorem place0_sound (t o : Int) : SoundAt Try.prog 64 [] [.lst 1 18 [], I t, I o] (I (-1)) [] := by
  refine SoundAt.of_wpA1 (fn := Try.f64) Try.func64 rfl ?_
  conv => whnf
  refine Loops.seq 0 (fun k => [.lst 1 18 [], I t, I o, .junk, .junk, .junk, I 0, I k, .junk, .junk, .junk, .junk, .junk, .junk, .junk, .junk, .junk, .junk, .junk, .junk, .junk, .junk, .junk, .junk, .junk, .junk, .junk, .junk, .junk, .junk, .junk]) (fun k => []) (fun k => True) ?_ trivial (fun k hk hr => ?_) (fun hr => ?_)
  · exact Weak.cov (by (conv => whnf); (repeat (refine ⟨rfl, ?_⟩; (conv => whnf))); exact trivial)
  · omega
  · conv => whnf
    refine ⟨fun h => absurd h (by decide), fun h => ?_⟩
    conv => whnf
    refine ⟨by simp, ?_⟩
    conv => whnf
    exact ⟨.inl rfl, _, .refl _, rfl⟩
theorem busy0_sound (t : Int) : SoundAt Try.prog 65 [] [.lst 1 18 [], I t] (Bo false) [] := by
  refine SoundAt.of_wpA1 (fn := Try.f65) Try.func65 rfl ?_
  conv => whnf
  refine Loops.seq 0 (fun k => [.lst 1 18 [], I t, .junk, .junk, Bo false, I k, .junk, .junk, .junk, .junk, .junk, .junk, .junk, .junk, .junk, .junk, .junk, .junk, .junk, .junk, .junk, .junk, .junk, .junk, .junk, .junk, .junk]) (fun k => []) (fun k => True) ?_ trivial (fun k hk hr => ?_) (fun hr => ?_)
  · exact Weak.cov (by (conv => whnf); (repeat (refine ⟨rfl, ?_⟩; (conv => whnf))); exact trivial)
  · omega
  · conv => whnf
    refine ⟨fun h => absurd h (by decide), fun h => ?_⟩
    conv => whnf
    refine ⟨by simp, ?_⟩
    conv => whnf
    exact ⟨.inl rfl, _, .refl _, rfl⟩

/-! ### Are two rows the same; is one ahead of another one -/

abbrev aheadV (a b : Cal) : Bool := a.to_ != -1 && decide (a.to_ < b.from_)
theorem rahead_sound (a b : Cal) : SoundAt Try.prog 33 [] [.agg (encCal a), .agg (encCal b)] (Bo (aheadV a b)) [] := by
  refine SoundAt.of_wpA1 (fn := Try.f33) Try.func33 rfl ?_
  conv => whnf
  (repeat' (first | (refine ⟨fun _ => ?_, fun _ => ?_⟩ <;> (conv => whnf)) | fail))
  all_goals (exact ⟨.inl rfl, _, .refl _, congrArg (fun b => some (C.v (Value.bool b))) (by simp_all [aheadV])⟩)
theorem ahead_sound (a b : Cal) : SoundAt Try.prog 15 [] [.agg (encCal a), .agg (encCal b)] (Bo (aheadV a b)) [] := by
  refine SoundAt.of_wpA1 (fn := Try.f15) Try.func15 rfl ?_
  conv => whnf
  (repeat' (first | (refine ⟨fun _ => ?_, fun _ => ?_⟩ <;> (conv => whnf)) | fail))
  all_goals (exact ⟨.inl rfl, _, .refl _, congrArg (fun b => some (C.v (Value.bool b))) (by simp_all [aheadV])⟩)

end Go.Cal
