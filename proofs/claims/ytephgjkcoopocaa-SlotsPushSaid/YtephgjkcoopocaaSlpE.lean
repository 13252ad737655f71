/- Layer 14 (slots): a slot popped, and pushed, in the program and in the reference, walked. -/
import Derived.Test.YtephgjkcoopocaaSlpD
namespace Go.Slp
open Go.Ab Go.Proofs Go.Hy
set_option linter.unusedVariables false
set_option maxRecDepth 8000

theorem next_sound (x i : Int) (h : u64 x) (h3 : -1 ≤ i) (h4 : i ≤ 2147483646) : SoundAt Try.prog 62 [] [U x, I i] (.tup [U (nextT x i), I 0]) [] :=
  of_calls [] (fun w => (Ytephgjkcoopocaa.next_yes x i w (u64_lt h).1 (u64_lt h).2 h3 h4).mono fun e w' ⟨h1, h2⟩ => ⟨h1, h2.symm⟩) args2 fun E => .tup _ _ rfl fun j c y e1 e2 => by
    match j, e1, e2 with
    | 0, e1, e2 => cases e1; cases e2; exact .v _ rfl
    | 1, e1, e2 => cases e1; cases e2; exact .v _ rfl
theorem rnext_sound (x i : Int) (h : u64 x) (h3 : -1 ≤ i) (h4 : i ≤ 2147483646) : SoundAt Try.prog 63 [] [U x, I i] (.tup [U (nextT x i), I 0]) [] :=
  of_calls [] (fun w => (Ytephgjkcoopocaa.refNext_yes x i w (u64_lt h).1 (u64_lt h).2 h3 h4).mono fun e w' ⟨h1, h2⟩ => ⟨h1, h2.symm⟩) args2 fun E => .tup _ _ rfl fun j c y e1 e2 => by
    match j, e1, e2 with
    | 0, e1, e2 => cases e1; cases e2; exact .v _ rfl
    | 1, e1, e2 => cases e1; cases e2; exact .v _ rfl

abbrev tP (r : En × Int × Int) : C := .tup [Ev r.1, I r.2.1, I r.2.2]
abbrev tQ (r : En × Int) : C := .tup [Ev r.1, I r.2]

theorem pop_sound (e : En) (he : e.ok) : SoundAt Try.prog 29 [] [Ev e] (tP (popV e)) [] := by
  have hl := he.2.1.2
  refine SoundAt.of_wpA1 (fn := Try.f29) Try.func29 rfl ?_
  conv => whnf
  refine ⟨_, _, (is_sound e he).frame rfl _, ?_⟩; (conv => whnf); (try (refine ⟨(rfl : (_ : Heap) = _), ?_⟩; (conv => whnf)))
  refine ⟨fun h1 => ?_, fun h1 => ?_⟩
  · (conv => whnf); (try (refine ⟨(rfl : (_ : Heap) = _), ?_⟩; (conv => whnf)))
    refine ⟨_, _, (index_sound e.head he.1).frame rfl _, ?_⟩; (conv => whnf); (try (refine ⟨(rfl : (_ : Heap) = _), ?_⟩; (conv => whnf)))
    refine ⟨fun h2 => ?_, fun h2 => ?_⟩
    · have e1 : popV e = (no, 0, 5) := by unfold popV; rw [if_neg (by simp [h1]), if_pos (by simpa [headI] using h2)]
      rw [e1]
      conv => whnf
      exact ⟨.inl rfl, _, Weak.var 1 rfl rfl rfl (.cons (.refl _) (.cons (WC.nil 0 1) (.cons (.refl _) .nil))), rfl⟩
    · have h2' : ¬ headI e < 0 := by simp at h2; unfold headI; omega
      have e1 : popV e = (⟨nextT e.head (nxt e.next (headI e)), e.next, e.active⟩, headI e, 0) := by unfold popV; rw [if_neg (by simp [h1]), if_neg h2']
      obtain ⟨g1, g2, g3, g4⟩ := head_in h1 h2'
      have hnx : (e.next)[(e.head % 4294967296 - 1).toNat]? = some (nxt e.next (headI e)) := by
        show (e.next)[(headI e).toNat]? = _
        unfold nxt
        rw [List.getElem?_eq_getElem (by omega)]
        rfl
      obtain ⟨_, b2, b3, _⟩ := isV_ok h1
      rw [e1]
      conv => whnf
      refine ⟨⟨false, []⟩, by kernel_rfl, ?_⟩; (conv => whnf)
      refine ⟨g1, encI (nxt e.next (headI e)), by rw [List.getElem?_map, hnx]; rfl, ?_⟩
      (conv => whnf); (try (refine ⟨(rfl : (_ : Heap) = _), ?_⟩; (conv => whnf)))
      refine ⟨_, _, (next_sound e.head (nxt e.next (headI e)) he.1 g3 (by omega)).frame rfl _, ?_⟩; (conv => whnf); (try (refine ⟨(rfl : (_ : Heap) = _), ?_⟩; (conv => whnf)))
      (repeat (first | (refine ⟨fun _ => ?_, fun h => absurd h (by decide)⟩; (conv => whnf); (try (refine ⟨(rfl : (_ : Heap) = _), ?_⟩; (conv => whnf)))) | (refine ⟨fun h => absurd h (by decide), fun _ => ?_⟩; (conv => whnf); (try (refine ⟨(rfl : (_ : Heap) = _), ?_⟩; (conv => whnf))))))
      exact ⟨.inl rfl, _, .refl _, rfl⟩
  · have e1 : popV e = (no, 0, 11) := by unfold popV; rw [if_pos h1]
    rw [e1]
    conv => whnf
    exact ⟨.inl rfl, _, Weak.var 1 rfl rfl rfl (.cons (.refl _) (.cons (WC.nil 0 1) (.cons (.refl _) .nil))), rfl⟩

/-! ### The reference -/

theorem free_eq {e : En} (h : isV e = true) : freeV e = (visV e.next (headI e) (cntV e.next (headI e)), 0) := by
  unfold freeV; rw [if_pos (isV_ok h).1]

theorem rpop_sound (e : En) (he : e.ok) : SoundAt Try.prog 30 [] [Ev e] (tP (popV e)) [] := by
  have hl := he.2.1.2
  refine SoundAt.of_wpA1 (fn := Try.f30) Try.func30 rfl ?_
  conv => whnf
  refine ⟨_, _, (ris_sound e he).frame rfl _, ?_⟩; (conv => whnf); (try (refine ⟨(rfl : (_ : Heap) = _), ?_⟩; (conv => whnf)))
  refine ⟨fun h1 => ?_, fun h1 => ?_⟩
  · have hfr := rfree_sound e he
    rw [free_eq h1] at hfr
    obtain ⟨b1, b2, b3, _⟩ := isV_ok h1
    (conv => whnf); (try (refine ⟨(rfl : (_ : Heap) = _), ?_⟩; (conv => whnf)))
    refine ⟨_, _, (hfr).frame rfl _, ?_⟩; (conv => whnf); (try (refine ⟨(rfl : (_ : Heap) = _), ?_⟩; (conv => whnf)))
    (repeat (first | (refine ⟨fun _ => ?_, fun h => absurd h (by decide)⟩; (conv => whnf); (try (refine ⟨(rfl : (_ : Heap) = _), ?_⟩; (conv => whnf)))) | (refine ⟨fun h => absurd h (by decide), fun _ => ?_⟩; (conv => whnf); (try (refine ⟨(rfl : (_ : Heap) = _), ?_⟩; (conv => whnf))))))
    by_cases h2' : headI e < 0
    · have e1 : popV e = (no, 0, 5) := by unfold popV; rw [if_neg (by simp [h1]), if_pos h2']
      have e2 : (visV e.next (headI e) (cntV e.next (headI e))) = [] := by rw [cnt_zero b1 h2']; rfl
      rw [e1, e2]
      conv => whnf
      (repeat (first | (refine ⟨fun _ => ?_, fun h => absurd h (by decide)⟩; (conv => whnf); (try (refine ⟨(rfl : (_ : Heap) = _), ?_⟩; (conv => whnf)))) | (refine ⟨fun h => absurd h (by decide), fun _ => ?_⟩; (conv => whnf); (try (refine ⟨(rfl : (_ : Heap) = _), ?_⟩; (conv => whnf))))))
      exact ⟨.inl rfl, _, Weak.var 1 rfl rfl rfl (.cons (.refl _) (.cons (WC.nil 0 1) (.cons (.refl _) .nil))), rfl⟩
    · have e1 : popV e = (⟨nextT e.head (nxt e.next (headI e)), e.next, e.active⟩, headI e, 0) := by unfold popV; rw [if_neg (by simp [h1]), if_neg h2']
      obtain ⟨g1, g2, g3, g4⟩ := head_in h1 h2'
      have hnx : (e.next)[(headI e).toNat]? = some (nxt e.next (headI e)) := by
        unfold nxt
        rw [List.getElem?_eq_getElem (by omega)]
        rfl
      obtain ⟨t, ht⟩ : ∃ t, visV e.next (headI e) (cntV e.next (headI e)) = headI e :: t := by
        have := cnt_pos b1 h2'
        obtain ⟨n, hn⟩ : ∃ n, cntV e.next (headI e) = n + 1 := ⟨cntV e.next (headI e) - 1, by omega⟩
        rw [hn]
        exact ⟨_, by simp [visV, List.range_succ_eq_map, posV]; rfl⟩
      rw [e1, ht]
      conv => whnf
      refine ⟨fun h => absurd h (by simp; omega), fun _ => ?_⟩
      conv => whnf
      refine ⟨⟨false, []⟩, by kernel_rfl, ?_⟩; (conv => whnf)
      refine ⟨by omega, encI (headI e), rfl, ?_⟩
      (conv => whnf); (try (refine ⟨(rfl : (_ : Heap) = _), ?_⟩; (conv => whnf)))
      refine ⟨g1, encI (nxt e.next (headI e)), by rw [List.getElem?_map, hnx]; rfl, ?_⟩
      (conv => whnf); (try (refine ⟨(rfl : (_ : Heap) = _), ?_⟩; (conv => whnf)))
      refine ⟨_, _, (rnext_sound e.head (nxt e.next (headI e)) he.1 g3 (by omega)).frame rfl _, ?_⟩; (conv => whnf); (try (refine ⟨(rfl : (_ : Heap) = _), ?_⟩; (conv => whnf)))
      refine ⟨⟨false, [3]⟩, by kernel_rfl, ?_⟩; (conv => whnf)
      refine ⟨by omega, encI (headI e), rfl, ?_⟩
      (conv => whnf); (try (refine ⟨(rfl : (_ : Heap) = _), ?_⟩; (conv => whnf)))
      exact ⟨.inl rfl, _, .refl _, rfl⟩
  · have e1 : popV e = (no, 0, 11) := by unfold popV; rw [if_pos h1]
    rw [e1]
    conv => whnf
    exact ⟨.inl rfl, _, Weak.var 1 rfl rfl rfl (.cons (.refl _) (.cons (WC.nil 0 1) (.cons (.refl _) .nil))), rfl⟩

end Go.Slp
