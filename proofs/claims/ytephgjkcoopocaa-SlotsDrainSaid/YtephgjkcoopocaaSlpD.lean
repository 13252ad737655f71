/- Layer 14 (slots): numbers sought in rows; Is; the reference's Free and Is, walked. -/
import Derived.Test.YtephgjkcoopocaaSlpC
namespace Go.Slp
open Go.Ab Go.Proofs Go.Hy
set_option linter.unusedVariables false
set_option maxRecDepth 8000

/-! ### A number in a row -/

def idxV (l : List Int) (x : Int) : Int := match l.findIdx? (· == x) with | some i => i | none => -1

theorem idx_no {l : List Int} {x : Int} (h : ∀ j, (hj : j < l.length) → (l[j] == x) = false) : idxV l x = -1 := by
  have : l.findIdx? (· == x) = none := by
    rw [List.findIdx?_eq_none_iff]
    intro y hy
    obtain ⟨j, hj, rfl⟩ := List.mem_iff_getElem.1 hy
    exact h j hj
  unfold idxV; rw [this]
theorem idx_yes {l : List Int} {x : Int} {k : Nat} (hk : k < l.length) (h1 : (l[k] == x) = true) (h : ∀ j, (hj : j < l.length) → j < k → (l[j] == x) = false) : idxV l x = k := by
  have : l.findIdx? (· == x) = some k := by
    rw [List.findIdx?_eq_some_iff_getElem]
    exact ⟨hk, h1, fun j hj => by simpa using h j (by omega) hj⟩
  unfold idxV; rw [this]
theorem idx_has (l : List Int) (x : Int) : decide (0 ≤ idxV l x) = l.contains x := by
  unfold idxV
  cases e : l.findIdx? (· == x) with
  | some i =>
    rw [List.findIdx?_eq_some_iff_getElem] at e
    obtain ⟨h1, h2, _⟩ := e
    have : x ∈ l := by rw [beq_iff_eq] at h2; rw [← h2]; exact List.getElem_mem h1
    simp [this]
  | none =>
    rw [List.findIdx?_eq_none_iff] at e
    have : ¬ x ∈ l := fun h => by have := e x h; simp at this
    simp [this]

theorem indexS_sound (l : List Int) (x : Int) (hl : l.length < 4611686018427387904) : SoundAt Try.prog 84 [] [lI l, I x] (I (idxV l x)) [] := by
  have hlm : (l.map encI).length = l.length := List.length_map ..
  refine SoundAt.of_wpA1 (fn := Try.f84) Try.func84 rfl ?_
  conv => whnf
  rw [hlm]
  refine Loops.seq l.length (fun k => [lI l, I x, .junk, .junk, I 0, .junk, .junk, I l.length, I k, .junk, .junk, .junk, .junk, .junk, .junk, .junk, .junk, .junk, .junk]) (fun k => []) (fun k => ∀ j, (h : j < l.length) → j < k → (l[j] == x) = false) ?_ (by simp) (fun k hk hr => ?_) (fun hr => ?_)
  · exact Weak.cov (by (conv => whnf); (repeat (refine ⟨rfl, ?_⟩; (conv => whnf))); exact trivial)
  · conv => whnf
    refine ⟨fun h => ?_, fun h => absurd h (by simp; omega)⟩
    conv => whnf
    refine ⟨by omega, encI l[k], by simp [hk], ?_⟩
    conv => whnf
    refine ⟨fun h1 => ?_, fun h1 => ?_⟩
    · conv => whnf
      have e : idxV l x = k := idx_yes hk (by simp at h1; simp [h1]) hr
      rw [e]
      refine .inr ⟨by simp, ?_⟩
      conv => whnf
      exact ⟨.inl rfl, _, .refl _, rfl⟩
    · conv => whnf
      refine .inl ⟨rfl, ?_, ?_⟩
      · rw [i64_nat (by omega)]
        exact Weak.covD 0 (by (conv => whnf); (repeat (refine ⟨rfl, ?_⟩; (conv => whnf))); exact trivial) rfl rfl rfl rfl rfl
      · intro j hj hjk
        by_cases e : j = k
        · subst e; simp at h1 ⊢; omega
        · exact hr j hj (by omega)
  · conv => whnf
    refine ⟨fun h => absurd h (by simp), fun h => ?_⟩
    conv => whnf
    refine ⟨by simp, ?_⟩
    rw [idx_no fun j hj => hr j hj hj]
    conv => whnf
    exact ⟨.inl rfl, _, .refl _, rfl⟩

theorem contains_sound (l : List Int) (x : Int) (hl : l.length < 4611686018427387904) : SoundAt Try.prog 64 [] [lI l, I x] (Bo (l.contains x)) [] := by
  refine SoundAt.of_wpA1 (fn := Try.f64) Try.func64 rfl ?_
  conv => whnf
  refine ⟨_, _, (indexS_sound l x hl).frame rfl _, ?_⟩; (conv => whnf); (try (refine ⟨(rfl : (_ : Heap) = _), ?_⟩; (conv => whnf)))
  (repeat' (first | (refine ⟨fun _ => ?_, fun _ => ?_⟩ <;> (conv => whnf)) | fail))
  all_goals (rename_i h; (exact ⟨.inl rfl, _, .refl _, congrArg (fun b => some (C.v (Value.bool b))) (by rw [← idx_has]; exact h.symm)⟩))

theorem rhas_sound (l : List Int) (x : Int) (hl : l.length < 4611686018427387904) : SoundAt Try.prog 66 [] [lI l, I x] (Bo (l.contains x)) [] := by
  refine SoundAt.of_wpA1 (fn := Try.f66) Try.func66 rfl ?_
  conv => whnf
  refine Loops.seq l.length (fun k => [lI l, I x, .junk, .junk, Bo false, I k, .junk, .junk, .junk, .junk, .junk, .junk, .junk, .junk, .junk, .junk, .junk, .junk]) (fun k => []) (fun k => ∀ j, (h : j < l.length) → j < k → (l[j] == x) = false) ?_ (by simp) (fun k hk hr => ?_) (fun hr => ?_)
  · exact Weak.cov (by (conv => whnf); (repeat (refine ⟨rfl, ?_⟩; (conv => whnf))); exact trivial)
  · conv => whnf
    refine ⟨fun h => ?_, fun h => absurd h (by simp; omega)⟩
    conv => whnf
    refine ⟨by omega, encI l[k], by simp [hk], ?_⟩
    conv => whnf
    refine ⟨fun h1 => ?_, fun h1 => ?_⟩
    · conv => whnf
      refine .inr ⟨by simp, ?_⟩
      conv => whnf
      (exact ⟨.inl rfl, _, .refl _, congrArg (fun b => some (C.v (Value.bool b))) (by rw [← idx_has, idx_yes hk (by simpa using h1) hr]; simp)⟩)
    · conv => whnf
      refine .inl ⟨rfl, ?_, ?_⟩
      · rw [i64_nat (by omega)]
        exact Weak.covD 0 (by (conv => whnf); (repeat (refine ⟨rfl, ?_⟩; (conv => whnf))); exact trivial) rfl rfl rfl rfl rfl
      · intro j hj hjk
        by_cases e : j = k
        · subst e; simpa using h1
        · exact hr j hj (by omega)
  · conv => whnf
    refine ⟨fun h => absurd h (by simp), fun h => ?_⟩
    conv => whnf
    refine ⟨by simp, ?_⟩
    conv => whnf
    (exact ⟨.inl rfl, _, .refl _, congrArg (fun b => some (C.v (Value.bool b))) (by rw [← idx_has, idx_no fun j hj => hr j hj hj]; simp)⟩)

/-! ### Is -/

theorem free_ok (e : En) : ((freeV e).2 == 0) = okV e.next (headI e) := by
  unfold freeV
  cases okV e.next (headI e) <;> simp

theorem is_sound (e : En) (he : e.ok) : SoundAt Try.prog 38 [] [Ev e] (Bo (isV e)) [] := by
  have h0 := free_ok e
  refine SoundAt.of_wpA1 (fn := Try.f38) Try.func38 rfl ?_
  conv => whnf
  refine ⟨_, _, (free_sound e he).frame rfl _, ?_⟩; (conv => whnf); (try (refine ⟨(rfl : (_ : Heap) = _), ?_⟩; (conv => whnf)))
  refine ⟨fun h1 => ?_, fun h1 => ?_⟩
  · rw [show ((freeV e).2 == 0) = true from h1] at h0
    (conv => whnf); (try (refine ⟨(rfl : (_ : Heap) = _), ?_⟩; (conv => whnf)))
    refine ⟨fun h2 => ?_, fun h2 => ?_⟩
    · (conv => whnf); (try (refine ⟨(rfl : (_ : Heap) = _), ?_⟩; (conv => whnf)))
      refine ⟨fun h3 => ?_, fun h3 => ?_⟩
      · (conv => whnf); (try (refine ⟨(rfl : (_ : Heap) = _), ?_⟩; (conv => whnf)))
        (repeat' (first | (refine ⟨fun _ => ?_, fun _ => ?_⟩ <;> (conv => whnf)) | fail))
        all_goals (rename_i h4; (exact ⟨.inl rfl, _, .refl _, congrArg (fun b => some (C.v (Value.bool b))) (by simp at h2 h3 h4; simp [isV, ← h0]; omega)⟩))
      · (conv => whnf); (try (refine ⟨(rfl : (_ : Heap) = _), ?_⟩; (conv => whnf)))
        (exact ⟨.inl rfl, _, .refl _, congrArg (fun b => some (C.v (Value.bool b))) (by simp at h2 h3; simp [isV, ← h0]; omega)⟩)
    · (conv => whnf); (try (refine ⟨(rfl : (_ : Heap) = _), ?_⟩; (conv => whnf)))
      (exact ⟨.inl rfl, _, .refl _, congrArg (fun b => some (C.v (Value.bool b))) (by simp at h2; simp [isV, ← h0]; omega)⟩)
  · rw [show ((freeV e).2 == 0) = false from h1] at h0
    (conv => whnf); (try (refine ⟨(rfl : (_ : Heap) = _), ?_⟩; (conv => whnf)))
    (exact ⟨.inl rfl, _, .refl _, congrArg (fun b => some (C.v (Value.bool b))) (by simp [isV, ← h0])⟩)

/-! ### The reference's Free and Is -/

theorem rfree_sound (e : En) (he : e.ok) : SoundAt Try.prog 34 [] [Ev e] (tF (freeV e)) [] := by
  have hl := he.2.1.2
  have hlm : (e.next.map encI).length = e.next.length := List.length_map ..
  obtain ⟨c1, c2, c3⟩ := cnt_spec e.next (headI e)
  generalize hN : cntV e.next (headI e) = N at *
  have hv : ∀ k, (vk e k).length = k := fun k => by simp [vis_len]
  have vs : ∀ k, vk e (k + 1) = vk e k ++ [[I (posV e.next (headI e) k)]] := fun k => by
    show (visV e.next (headI e) (k + 1)).map encI = _
    rw [vis_succ, List.map_append]; rfl
  have hvl : ∀ k, k ≤ N → (visV e.next (headI e) k).length < 4611686018427387904 := fun k hk => by rw [vis_len]; omega
  refine SoundAt.of_wpA1 (fn := Try.f34) Try.func34 rfl ?_
  conv => whnf
  refine ⟨_, _, (rindex_sound e.head he.1).frame rfl _, ?_⟩; (conv => whnf); (try (refine ⟨(rfl : (_ : Heap) = _), ?_⟩; (conv => whnf)))
  refine Loops.seq N (fun k => [.junk, .ref 0 [] 3 0 0, .junk, I 0, .gl 1 1 (vk e k), I (posV e.next (headI e) k), .junk, .junk, .junk, .junk, .junk, .junk, .junk, .junk, .junk, .junk, .junk, .junk, .junk, .junk, .junk, .junk, .junk, .junk, .junk, .junk, .junk, .junk, .junk, .junk, .junk, .junk, .junk, .junk, .junk, .junk]) (fun k => [⟨1, 38, 3, [encE e], 0⟩, ⟨4, 3, 1, vk e k, 0⟩]) (fun _ => True) ?_ trivial (fun k hk _ => ?_) (fun _ => ?_)
  · exact (Weak.grow 4 3 1 rfl (.inl rfl)).trans (Weak.cov (by (conv => whnf); (repeat (refine ⟨rfl, ?_⟩; (conv => whnf))); exact trivial))
  · have h0 := c3 k hk
    simp only [stopB, Bool.or_eq_false_iff, Bool.not_eq_false', inB, Bool.and_eq_true, decide_eq_true_eq] at h0
    obtain ⟨⟨g1, g2⟩, g3⟩ := h0
    have hvk := hv k
    have hnx : (e.next)[(posV e.next (headI e) k).toNat]? = some (posV e.next (headI e) (k + 1)) := by
      show _ = some (nxt e.next (posV e.next (headI e) k))
      unfold nxt
      rw [List.getElem?_eq_getElem (by omega)]
      rfl
    rw [vs k]
    have hhas := rhas_sound (visV e.next (headI e) k) (posV e.next (headI e) k) (hvl k (by omega))
    rw [g3] at hhas
    generalize hP : posV e.next (headI e) k = p at *
    generalize hQ : posV e.next (headI e) (k + 1) = p' at *
    conv => whnf
    refine ⟨fun _ => ?_, fun h => absurd h (by simp; omega)⟩
    (conv => whnf); (try (refine ⟨(rfl : (_ : Heap) = _), ?_⟩; (conv => whnf)))
    refine ⟨fun h => absurd h (by simp; omega), fun _ => ?_⟩
    (conv => whnf); (try (refine ⟨(rfl : (_ : Heap) = _), ?_⟩; (conv => whnf)))
    refine ⟨fun h => absurd h (by simp; omega), fun _ => ?_⟩
    (conv => whnf); (try (refine ⟨(rfl : (_ : Heap) = _), ?_⟩; (conv => whnf)))
    refine ⟨_, _, (hhas).frame rfl _, ?_⟩; (conv => whnf); (try (refine ⟨(rfl : (_ : Heap) = _), ?_⟩; (conv => whnf)))
    (repeat (first | (refine ⟨fun _ => ?_, fun h => absurd h (by decide)⟩; (conv => whnf); (try (refine ⟨(rfl : (_ : Heap) = _), ?_⟩; (conv => whnf)))) | (refine ⟨fun h => absurd h (by decide), fun _ => ?_⟩; (conv => whnf); (try (refine ⟨(rfl : (_ : Heap) = _), ?_⟩; (conv => whnf))))))
    refine ⟨rfl, .inr rfl, by simp [maxLen, hvk]; omega, by show _ * 8 ≤ _; simp [hvk]; omega, ?_⟩
    conv => whnf
    refine ⟨g1, [I p'], by rw [List.getElem?_map, hnx]; rfl, ?_⟩
    conv => whnf
    exact .inl ⟨rfl, Weak.cov (by (conv => whnf); (repeat (refine ⟨rfl, ?_⟩; (conv => whnf))); exact trivial), trivial⟩
  · have hhas := rhas_sound (visV e.next (headI e) N) (posV e.next (headI e) N) (hvl N (by omega))
    by_cases hok : okV e.next (headI e) = true
    · have hp : posV e.next (headI e) N = -1 := by simpa [okV, hN] using hok
      have e1 : freeV e = (visV e.next (headI e) N, 0) := by unfold freeV; rw [if_pos hok, hN]
      rw [hp, e1]
      conv => whnf
      refine ⟨fun h => absurd h (by simp), fun _ => ?_⟩
      conv => whnf
      refine ⟨by simp, ?_⟩
      conv => whnf
      exact ⟨.inl rfl, _, .refl _, rfl⟩
    · have hp : posV e.next (headI e) N ≠ -1 := by intro h; exact hok (by simp [okV, hN, h])
      have e1 : freeV e = ([], 11) := by unfold freeV; rw [if_neg hok]
      rw [e1]
      have hst := c2
      simp only [stopB, Bool.or_eq_true, Bool.not_eq_true', inB, Bool.and_eq_false_iff, decide_eq_false_iff_not] at hst
      generalize hP : posV e.next (headI e) N = p at *
      conv => whnf
      refine ⟨fun _ => ?_, fun h => absurd h (by simp; exact hp)⟩
      (conv => whnf); (try (refine ⟨(rfl : (_ : Heap) = _), ?_⟩; (conv => whnf)))
      refine ⟨fun h1 => ?_, fun h1 => ?_⟩
      · (conv => whnf); (try (refine ⟨(rfl : (_ : Heap) = _), ?_⟩; (conv => whnf)))
        refine ⟨by simp, ?_⟩
        conv => whnf
        exact ⟨.inl rfl, _, Weak.cell 2 rfl (WC.nil 0 1), rfl⟩
      · (conv => whnf); (try (refine ⟨(rfl : (_ : Heap) = _), ?_⟩; (conv => whnf)))
        refine ⟨fun h2 => ?_, fun h2 => ?_⟩
        · (conv => whnf); (try (refine ⟨(rfl : (_ : Heap) = _), ?_⟩; (conv => whnf)))
          refine ⟨by simp, ?_⟩
          conv => whnf
          exact ⟨.inl rfl, _, Weak.cell 2 rfl (WC.nil 0 1), rfl⟩
        · have h3 : (visV e.next (headI e) N).contains p = true := by
            simp at h1 h2
            rcases hst with (h | h) | h
            · omega
            · omega
            · exact h
          (conv => whnf); (try (refine ⟨(rfl : (_ : Heap) = _), ?_⟩; (conv => whnf)))
          refine ⟨_, _, (hhas).frame rfl _, ?_⟩; (conv => whnf); (try (refine ⟨(rfl : (_ : Heap) = _), ?_⟩; (conv => whnf)))
          refine ⟨fun _ => ?_, fun h => absurd ((h3).symm.trans h : true = false) (by decide)⟩; (conv => whnf); (try (refine ⟨(rfl : (_ : Heap) = _), ?_⟩; (conv => whnf)))
          refine ⟨by simp, ?_⟩
          conv => whnf
          exact ⟨.inl rfl, _, Weak.cell 2 rfl (WC.nil 0 1), rfl⟩

theorem ris_sound (e : En) (he : e.ok) : SoundAt Try.prog 39 [] [Ev e] (Bo (isV e)) [] := by
  have h0 := free_ok e
  refine SoundAt.of_wpA1 (fn := Try.f39) Try.func39 rfl ?_
  conv => whnf
  refine ⟨_, _, (rfree_sound e he).frame rfl _, ?_⟩; (conv => whnf); (try (refine ⟨(rfl : (_ : Heap) = _), ?_⟩; (conv => whnf)))
  refine ⟨fun h1 => ?_, fun h1 => ?_⟩
  · rw [show ((freeV e).2 == 0) = true from h1] at h0
    (conv => whnf); (try (refine ⟨(rfl : (_ : Heap) = _), ?_⟩; (conv => whnf)))
    refine ⟨fun h2 => ?_, fun h2 => ?_⟩
    · (conv => whnf); (try (refine ⟨(rfl : (_ : Heap) = _), ?_⟩; (conv => whnf)))
      refine ⟨fun h3 => ?_, fun h3 => ?_⟩
      · (conv => whnf); (try (refine ⟨(rfl : (_ : Heap) = _), ?_⟩; (conv => whnf)))
        (repeat' (first | (refine ⟨fun _ => ?_, fun _ => ?_⟩ <;> (conv => whnf)) | fail))
        all_goals (rename_i h4; (exact ⟨.inl rfl, _, .refl _, congrArg (fun b => some (C.v (Value.bool b))) (by simp at h2 h3 h4; simp [isV, ← h0]; omega)⟩))
      · (conv => whnf); (try (refine ⟨(rfl : (_ : Heap) = _), ?_⟩; (conv => whnf)))
        (exact ⟨.inl rfl, _, .refl _, congrArg (fun b => some (C.v (Value.bool b))) (by simp at h2 h3; simp [isV, ← h0]; omega)⟩)
    · (conv => whnf); (try (refine ⟨(rfl : (_ : Heap) = _), ?_⟩; (conv => whnf)))
      (exact ⟨.inl rfl, _, .refl _, congrArg (fun b => some (C.v (Value.bool b))) (by simp at h2; simp [isV, ← h0]; omega)⟩)
  · rw [show ((freeV e).2 == 0) = false from h1] at h0
    (conv => whnf); (try (refine ⟨(rfl : (_ : Heap) = _), ?_⟩; (conv => whnf)))
    (exact ⟨.inl rfl, _, .refl _, congrArg (fun b => some (C.v (Value.bool b))) (by simp [isV, ← h0])⟩)

end Go.Slp
