/- Layer 14 (slots): the statements SlotsTell, SlotsFresh, walked. -/
import Derived.Test.YtephgjkcoopocaaSlpH
namespace Go.Slp
open Go.Ab Go.Proofs Go.Hy
set_option linter.unusedVariables false
set_option maxRecDepth 100000

theorem no_ok : no.ok := by decide
theorem pop_ok {e : En} (he : e.ok) : (popV e).1.ok := by
  cases h : popV e with
  | mk a r =>
    obtain ⟨i, f⟩ := r
    by_cases hf : f = 0
    · subst hf; exact (pop_law he h).2.2.2.2.2.2.1
    · have : a = no := by
        unfold popV at h
        split at h
        · cases h; rfl
        · split at h
          · cases h; rfl
          · cases h; exact absurd rfl hf
      rw [this]; exact no_ok
theorem push_ok {e : En} (he : e.ok) (s : Int) : (pushV e s).1.ok := by
  cases h : pushV e s with
  | mk a f =>
    by_cases hf : f = 0
    · subst hf; exact (push_law he h).2.2.2.2.2.2.1
    · have : a = no := by
        unfold pushV at h
        split at h
        · cases h; rfl
        · split at h
          · cases h; rfl
          · split at h
            · cases h; rfl
            · cases h; exact absurd rfl hf
      rw [this]; exact no_ok
theorem sameEV_self (a : En) : sameEV a a = true := by simp [sameEV]
theorem sameEE {a : En} (ha : a.ok) : SoundAt Try.prog 36 [] [Ev a, Ev a] (Bo true) [] := by
  have := sameE_sound a a ha ha
  rw [sameEV_self] at this
  exact this
theorem sameII {a : List Int} (ha : a.length < 4611686018427387904) : SoundAt Try.prog 37 [] [lI a, lI a] (Bo true) [] := by
  have := sameI_sound a a ha ha
  rw [beq_self_eq_true] at this
  exact this
theorem free_len {e : En} (he : e.ok) : (freeV e).1.length < 4611686018427387904 := by
  have h1 := (cnt_spec e.next (headI e)).1
  have h2 := he.2.1.2
  unfold freeV
  split
  · show (visV _ _ _).length < _
    rw [vis_len]; omega
  · decide

theorem tell_sound (e : En) (slot : Int) (he : e.ok) : SoundAt Try.prog 9 [] [Ev e, I slot] (Bo true) [] := by
  refine SoundAt.of_wpA1 (fn := Try.f9) Try.func9 rfl ?_
  conv => whnf
  refine ⟨fun h0 => ?_, fun h0 => ?_⟩
  · conv => whnf
    exact ⟨.inl rfl, _, .refl _, rfl⟩
  conv => whnf
  refine ⟨_, _, (pop_sound e he).frame rfl _, ?_⟩; (conv => whnf); (try (refine ⟨(rfl : (_ : Heap) = _), ?_⟩; (conv => whnf)))
  refine ⟨_, _, (rpop_sound e he).frame rfl _, ?_⟩; (conv => whnf); (try (refine ⟨(rfl : (_ : Heap) = _), ?_⟩; (conv => whnf)))
  refine ⟨_, _, (push_sound e slot he).frame rfl _, ?_⟩; (conv => whnf); (try (refine ⟨(rfl : (_ : Heap) = _), ?_⟩; (conv => whnf)))
  refine ⟨_, _, (rpush_sound e slot he).frame rfl _, ?_⟩; (conv => whnf); (try (refine ⟨(rfl : (_ : Heap) = _), ?_⟩; (conv => whnf)))
  refine ⟨_, _, (free_sound e he).frame rfl _, ?_⟩; (conv => whnf); (try (refine ⟨(rfl : (_ : Heap) = _), ?_⟩; (conv => whnf)))
  refine ⟨_, _, (rfree_sound e he).frame rfl _, ?_⟩; (conv => whnf); (try (refine ⟨(rfl : (_ : Heap) = _), ?_⟩; (conv => whnf)))
  refine ⟨⟨false, []⟩, by kernel_rfl, ?_⟩; (conv => whnf)
  refine ⟨_, _, (stacked_sound).frame rfl _, ?_⟩; (conv => whnf); (try (refine ⟨(rfl : (_ : Heap) = _), ?_⟩; (conv => whnf)))
  (repeat (first | (refine ⟨fun _ => ?_, fun h => absurd h (by decide)⟩; (conv => whnf); (try (refine ⟨(rfl : (_ : Heap) = _), ?_⟩; (conv => whnf)))) | (refine ⟨fun h => absurd h (by decide), fun _ => ?_⟩; (conv => whnf); (try (refine ⟨(rfl : (_ : Heap) = _), ?_⟩; (conv => whnf))))))
  refine ⟨_, _, (sameEE (pop_ok he)).frame rfl _, ?_⟩; (conv => whnf); (try (refine ⟨(rfl : (_ : Heap) = _), ?_⟩; (conv => whnf)))
  (repeat (first | (refine ⟨fun _ => ?_, fun h => absurd h (by decide)⟩; (conv => whnf); (try (refine ⟨(rfl : (_ : Heap) = _), ?_⟩; (conv => whnf)))) | (refine ⟨fun h => absurd h (by decide), fun _ => ?_⟩; (conv => whnf); (try (refine ⟨(rfl : (_ : Heap) = _), ?_⟩; (conv => whnf))))))
  refine ⟨fun _ => ?_, fun h => absurd h (by simp)⟩; (conv => whnf); (try (refine ⟨(rfl : (_ : Heap) = _), ?_⟩; (conv => whnf)))
  refine ⟨fun _ => ?_, fun h => absurd h (by simp)⟩; (conv => whnf); (try (refine ⟨(rfl : (_ : Heap) = _), ?_⟩; (conv => whnf)))
  refine ⟨_, _, (sameEE (push_ok he slot)).frame rfl _, ?_⟩; (conv => whnf); (try (refine ⟨(rfl : (_ : Heap) = _), ?_⟩; (conv => whnf)))
  (repeat (first | (refine ⟨fun _ => ?_, fun h => absurd h (by decide)⟩; (conv => whnf); (try (refine ⟨(rfl : (_ : Heap) = _), ?_⟩; (conv => whnf)))) | (refine ⟨fun h => absurd h (by decide), fun _ => ?_⟩; (conv => whnf); (try (refine ⟨(rfl : (_ : Heap) = _), ?_⟩; (conv => whnf))))))
  refine ⟨fun _ => ?_, fun h => absurd h (by simp)⟩; (conv => whnf); (try (refine ⟨(rfl : (_ : Heap) = _), ?_⟩; (conv => whnf)))
  refine ⟨_, _, (sameII (free_len he)).frame rfl _, ?_⟩; (conv => whnf); (try (refine ⟨(rfl : (_ : Heap) = _), ?_⟩; (conv => whnf)))
  (repeat (first | (refine ⟨fun _ => ?_, fun h => absurd h (by decide)⟩; (conv => whnf); (try (refine ⟨(rfl : (_ : Heap) = _), ?_⟩; (conv => whnf)))) | (refine ⟨fun h => absurd h (by decide), fun _ => ?_⟩; (conv => whnf); (try (refine ⟨(rfl : (_ : Heap) = _), ?_⟩; (conv => whnf))))))
  refine ⟨fun _ => ?_, fun h => absurd h (by simp)⟩; (conv => whnf); (try (refine ⟨(rfl : (_ : Heap) = _), ?_⟩; (conv => whnf)))
  refine ⟨_, _, (is_sound e he).frame rfl _, ?_⟩; (conv => whnf); (try (refine ⟨(rfl : (_ : Heap) = _), ?_⟩; (conv => whnf)))
  refine ⟨fun a1 => ?_, fun a1 => ?_⟩ <;>
  · (conv => whnf); (try (refine ⟨(rfl : (_ : Heap) = _), ?_⟩; (conv => whnf)))
    refine ⟨_, _, (ris_sound e he).frame rfl _, ?_⟩; (conv => whnf); (try (refine ⟨(rfl : (_ : Heap) = _), ?_⟩; (conv => whnf)))
    first | (refine ⟨fun _ => ?_, fun h => absurd ((a1).symm.trans h : true = false) (by decide)⟩; (conv => whnf); (try (refine ⟨(rfl : (_ : Heap) = _), ?_⟩; (conv => whnf)))) | (refine ⟨fun h => absurd ((a1).symm.trans h : false = true) (by decide), fun _ => ?_⟩; (conv => whnf); (try (refine ⟨(rfl : (_ : Heap) = _), ?_⟩; (conv => whnf))))
    (repeat (first | (refine ⟨fun _ => ?_, fun h => absurd h (by decide)⟩; (conv => whnf); (try (refine ⟨(rfl : (_ : Heap) = _), ?_⟩; (conv => whnf)))) | (refine ⟨fun h => absurd h (by decide), fun _ => ?_⟩; (conv => whnf); (try (refine ⟨(rfl : (_ : Heap) = _), ?_⟩; (conv => whnf))))))
    exact ⟨.inl rfl, _, .refl _, rfl⟩

theorem fresh_ok (n : Int) : (freshV n).1.ok := by
  unfold freshV
  split
  · exact no_ok
  · refine ⟨(by decide : u64 1), ⟨fun x hx => ?_, ?_⟩, (by decide : i64 0)⟩
    · obtain ⟨i, hi, rfl⟩ := List.mem_map.1 hx
      have := List.mem_range.1 hi
      split
      · decide
      · exact ⟨by omega, by omega⟩
    · simp; omega

/-- A fresh endpoint's slots are all free. -/
theorem fresh_free {n : Int} (h : (freshV n).2 = 0) : (freeV (freshV n).1).2 = 0 ∧ ((freeV (freshV n).1).1.length : Int) = n ∧ isV (freshV n).1 = true := by
  by_cases h1 : n < 1 ∨ 4 < n
  · unfold freshV at h; rw [if_pos h1] at h; simp at h
  · have : n = 1 ∨ n = 2 ∨ n = 3 ∨ n = 4 := by omega
    rcases this with rfl | rfl | rfl | rfl <;> decide

theorem freshL_sound (n : Int) : SoundAt Try.prog 10 [] [I n] (Bo true) [] := by
  refine SoundAt.of_wpA1 (fn := Try.f10) Try.func10 rfl ?_
  conv => whnf
  refine ⟨_, _, (fresh_sound n).frame rfl _, ?_⟩; (conv => whnf); (try (refine ⟨(rfl : (_ : Heap) = _), ?_⟩; (conv => whnf)))
  refine ⟨_, _, (rfresh_sound n).frame rfl _, ?_⟩; (conv => whnf); (try (refine ⟨(rfl : (_ : Heap) = _), ?_⟩; (conv => whnf)))
  refine ⟨_, _, (sameEE (fresh_ok n)).frame rfl _, ?_⟩; (conv => whnf); (try (refine ⟨(rfl : (_ : Heap) = _), ?_⟩; (conv => whnf)))
  (repeat (first | (refine ⟨fun _ => ?_, fun h => absurd h (by decide)⟩; (conv => whnf); (try (refine ⟨(rfl : (_ : Heap) = _), ?_⟩; (conv => whnf)))) | (refine ⟨fun h => absurd h (by decide), fun _ => ?_⟩; (conv => whnf); (try (refine ⟨(rfl : (_ : Heap) = _), ?_⟩; (conv => whnf))))))
  refine ⟨fun h => absurd h (by simp), fun _ => ?_⟩
  (conv => whnf); (try (refine ⟨(rfl : (_ : Heap) = _), ?_⟩; (conv => whnf)))
  refine ⟨fun h => ?_, fun h => ?_⟩
  · (conv => whnf); (try (refine ⟨(rfl : (_ : Heap) = _), ?_⟩; (conv => whnf)))
    refine ⟨_, _, (stacked_sound).frame rfl _, ?_⟩; (conv => whnf); (try (refine ⟨(rfl : (_ : Heap) = _), ?_⟩; (conv => whnf)))
    (repeat (first | (refine ⟨fun _ => ?_, fun h => absurd h (by decide)⟩; (conv => whnf); (try (refine ⟨(rfl : (_ : Heap) = _), ?_⟩; (conv => whnf)))) | (refine ⟨fun h => absurd h (by decide), fun _ => ?_⟩; (conv => whnf); (try (refine ⟨(rfl : (_ : Heap) = _), ?_⟩; (conv => whnf))))))
    exact ⟨.inl rfl, _, .refl _, rfl⟩
  · obtain ⟨f1, f2, f3⟩ := fresh_free (n := n) (by simpa using h)
    (conv => whnf); (try (refine ⟨(rfl : (_ : Heap) = _), ?_⟩; (conv => whnf)))
    refine ⟨_, _, (free_sound (freshV n).1 (fresh_ok n)).frame rfl _, ?_⟩; (conv => whnf); (try (refine ⟨(rfl : (_ : Heap) = _), ?_⟩; (conv => whnf)))
    refine ⟨_, _, (stacked_sound).frame rfl _, ?_⟩; (conv => whnf); (try (refine ⟨(rfl : (_ : Heap) = _), ?_⟩; (conv => whnf)))
    (repeat (first | (refine ⟨fun _ => ?_, fun h => absurd h (by decide)⟩; (conv => whnf); (try (refine ⟨(rfl : (_ : Heap) = _), ?_⟩; (conv => whnf)))) | (refine ⟨fun h => absurd h (by decide), fun _ => ?_⟩; (conv => whnf); (try (refine ⟨(rfl : (_ : Heap) = _), ?_⟩; (conv => whnf))))))
    refine ⟨fun _ => ?_, fun h => absurd h (by simp [f1])⟩
    (conv => whnf); (try (refine ⟨(rfl : (_ : Heap) = _), ?_⟩; (conv => whnf)))
    refine ⟨fun _ => ?_, fun h => absurd h (by simp [f2])⟩
    (conv => whnf); (try (refine ⟨(rfl : (_ : Heap) = _), ?_⟩; (conv => whnf)))
    refine ⟨_, _, (is_sound (freshV n).1 (fresh_ok n)).frame rfl _, ?_⟩; (conv => whnf); (try (refine ⟨(rfl : (_ : Heap) = _), ?_⟩; (conv => whnf)))
    refine ⟨fun _ => ?_, fun h => absurd ((f3).symm.trans h : true = false) (by decide)⟩; (conv => whnf); (try (refine ⟨(rfl : (_ : Heap) = _), ?_⟩; (conv => whnf)))
    exact ⟨.inl rfl, _, .refl _, rfl⟩

end Go.Slp
