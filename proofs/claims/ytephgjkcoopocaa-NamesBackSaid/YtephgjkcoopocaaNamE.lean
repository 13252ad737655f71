/- Layer 3 (names): paths, and the reference, walked. -/
import Derived.Test.YtephgjkcoopocaaNamD
namespace Go.Nam
open Go.Ab Go.Proofs Go.Hy Go.Gat
set_option linter.unusedVariables false
set_option maxRecDepth 8000

def pathV (s : Str) : Bool := decide (0 < s.length) && decide (s.length ≤ 32) && (match s with | c :: _ => bI c == 47 | [] => false) && allV wordI s 47

theorem path_sound (s : Str) (hs : s.length < 4611686018427387904) : SoundAt Try.prog 24 [] [Tx s] (Bo (pathV s)) [] := by
  refine SoundAt.of_wpA1 (fn := Try.f24) Try.func24 rfl ?_
  cases s with
  | nil =>
    conv => whnf
    (repeat (first | (refine ⟨fun _ => ?_, fun h => absurd h (by decide)⟩; (conv => whnf); (try (refine ⟨(rfl : (_ : Heap) = _), ?_⟩; (conv => whnf)))) | (refine ⟨fun h => absurd h (by decide), fun _ => ?_⟩; (conv => whnf); (try (refine ⟨(rfl : (_ : Heap) = _), ?_⟩; (conv => whnf))))))
    exact ⟨.inl rfl, _, .refl _, rfl⟩
  | cons c s =>
    conv => whnf
    refine ⟨fun _ => ?_, fun h => absurd h (by simp <;> omega)⟩
    conv => whnf
    refine ⟨fun h1 => ?_, fun h1 => ?_⟩
    · conv => whnf
      refine ⟨by omega, c, rfl, ?_⟩
      conv => whnf
      refine ⟨fun h2 => ?_, fun h2 => ?_⟩
      · conv => whnf
        refine ⟨_, _, (word_sound).frame rfl _, ?_⟩; (conv => whnf); (try (refine ⟨(rfl : (_ : Heap) = _), ?_⟩; (conv => whnf)))
        refine ⟨_, _, (all_sound (c :: s) 47 hs).frame rfl _, ?_⟩; (conv => whnf); (try (refine ⟨(rfl : (_ : Heap) = _), ?_⟩; (conv => whnf)))
        have h1' : s.length ≤ 31 := by have := h1; simp at this; omega
        have e : pathV (c :: s) = allV wordI (c :: s) 47 := by unfold pathV; simp [h2]; omega
        refine ⟨fun h3 => ?_, fun h3 => ?_⟩
        all_goals ((conv => whnf); (exact ⟨.inl rfl, _, .refl _, congrArg (fun b => some (C.v (Value.bool b))) (by rw [e, h3])⟩))
      · conv => whnf
        (exact ⟨.inl rfl, _, .refl _, congrArg (fun b => some (C.v (Value.bool b))) (by simp [pathV, h2])⟩)
    · conv => whnf
      (exact ⟨.inl rfl, _, .refl _, congrArg (fun b => some (C.v (Value.bool b))) (by simp [pathV]; simp at h1; omega)⟩)

theorem rpath_sound (s : Str) (hs : s.length < 4611686018427387904) : SoundAt Try.prog 25 [] [Tx s] (Bo (pathV s)) [] := by
  refine SoundAt.of_wpA1 (fn := Try.f25) Try.func25 rfl ?_
  cases s with
  | nil =>
    conv => whnf
    (repeat (first | (refine ⟨fun _ => ?_, fun h => absurd h (by decide)⟩; (conv => whnf); (try (refine ⟨(rfl : (_ : Heap) = _), ?_⟩; (conv => whnf)))) | (refine ⟨fun h => absurd h (by decide), fun _ => ?_⟩; (conv => whnf); (try (refine ⟨(rfl : (_ : Heap) = _), ?_⟩; (conv => whnf))))))
    exact ⟨.inl rfl, _, .refl _, rfl⟩
  | cons c s =>
    conv => whnf
    refine ⟨fun h => absurd h (by simp <;> omega), fun _ => ?_⟩
    conv => whnf
    refine ⟨fun h1 => ?_, fun h1 => ?_⟩
    · conv => whnf
      (exact ⟨.inl rfl, _, .refl _, congrArg (fun b => some (C.v (Value.bool b))) (by simp [pathV]; simp at h1; omega)⟩)
    · conv => whnf
      refine ⟨by omega, c, rfl, ?_⟩
      conv => whnf
      refine ⟨fun h2 => ?_, fun h2 => ?_⟩
      · conv => whnf
        (exact ⟨.inl rfl, _, .refl _, congrArg (fun b => some (C.v (Value.bool b))) (by simp [pathV]; simp at h2; simp [h2])⟩)
      · conv => whnf
        have h1' : s.length ≤ 31 := by have := h1; simp at this; omega
        have e : pathV (c :: s) = allV wordI (c :: s) 47 := by unfold pathV; simp at h2; simp [h2]; omega
        rw [e]
        clear e h2 h1
        refine Loops.seq (c :: s).length (fun k => [Tx (c :: s), .junk, Bo false, I k, .junk, .junk, .junk, .junk, .junk, .junk, .junk, .junk, .junk, .junk, .junk, .junk, .junk, .junk, .junk, .junk, .junk, .junk, .junk, .junk, .junk, .junk, .junk, .junk, .junk, .junk, .junk, .junk, .junk, .junk]) (fun k => []) (fun k => ∀ j, (h : j < (c :: s).length) → j < k → (bI (c :: s)[j] == 47 || wordI (bI (c :: s)[j])) = true) ?_ (by simp) (fun k hk hr => ?_) (fun hr => ?_)
        · exact Weak.cov (by (conv => whnf); (repeat (refine ⟨rfl, ?_⟩; (conv => whnf))); exact trivial)
        · have nx : ((bI (c :: s)[k] == 47 || wordI (bI (c :: s)[k])) = true) → ∀ j, (h : j < (c :: s).length) → j < k + 1 → (bI (c :: s)[j] == 47 || wordI (bI (c :: s)[j])) = true := fun h2 j hj hjk => by
            by_cases e : j = k
            · subst e; exact h2
            · exact hr j hj (by omega)
          conv => whnf
          refine ⟨fun h => ?_, fun h => absurd h (by simp at hk ⊢; omega)⟩
          conv => whnf
          refine ⟨by omega, (c :: s)[k], by rw [toNat_cast, List.getElem?_eq_getElem hk], ?_⟩
          conv => whnf
          refine ⟨_, _, (rword_sound (bI (c :: s)[k])).frame rfl _, ?_⟩; (conv => whnf); (try (refine ⟨(rfl : (_ : Heap) = _), ?_⟩; (conv => whnf)))
          refine ⟨fun h2 => ?_, fun h2 => ?_⟩
          · conv => whnf
            refine .inl ⟨rfl, ?_, nx (by simp [h2])⟩
            rw [i64_nat (by omega)]
            exact Weak.covD 0 (by (conv => whnf); (repeat (refine ⟨rfl, ?_⟩; (conv => whnf))); exact trivial) rfl rfl rfl rfl rfl
          · conv => whnf
            refine ⟨by omega, (c :: s)[k], by rw [toNat_cast, List.getElem?_eq_getElem hk], ?_⟩
            conv => whnf
            refine ⟨fun h3 => ?_, fun h3 => ?_⟩
            · conv => whnf
              refine .inr ⟨by simp, ?_⟩
              conv => whnf
              (exact ⟨.inl rfl, _, .refl _, congrArg (fun b => some (C.v (Value.bool b))) (by symm; unfold allV; rw [List.all_eq_false]; exact ⟨_, List.getElem_mem hk, by simp at h3; simp [h2, h3]⟩)⟩)
            · conv => whnf
              refine .inl ⟨rfl, ?_, nx (by simp at h3; simp [h3])⟩
              rw [i64_nat (by omega)]
              exact Weak.covD 0 (by (conv => whnf); (repeat (refine ⟨rfl, ?_⟩; (conv => whnf))); exact trivial) rfl rfl rfl rfl rfl
        · conv => whnf
          refine ⟨fun h => absurd h (by simp), fun h => ?_⟩
          conv => whnf
          refine ⟨by simp, ?_⟩
          conv => whnf
          (exact ⟨.inl rfl, _, .refl _, congrArg (fun b => some (C.v (Value.bool b))) (by symm; unfold allV; rw [List.all_eq_true]; intro x hx; obtain ⟨j, hj, rfl⟩ := List.mem_iff_getElem.1 hx; exact hr j hj hj)⟩)

/-! ### The reference's parts -/

theorem cutV_app {b : UInt8} {q : Str} : ∀ {p : Str}, b ∉ p → cutV b (p ++ b :: q) = p :: cutV b q
  | [], _ => by simp [cutV]
  | c :: p, h => by
    have h1 : (c == b) = false := by simp; intro e; subst e; exact h (List.mem_cons_self ..)
    have h2 := cutV_app (p := p) (q := q) fun e => h (List.mem_cons_of_mem _ e)
    simp [cutV, h1, h2]

/-- What the reference has when it has looked at so many bytes. -/
def refP (b : UInt8) (s : Str) : Nat → List Str × Nat
  | 0 => ([], 0)
  | k + 1 => match s[k]? with
    | some c => if c == b then ((refP b s k).1 ++ [(s.take k).drop (refP b s k).2], k + 1) else refP b s k
    | none => refP b s k

theorem refP_ok (b : UInt8) (s : Str) : ∀ k, k ≤ s.length → (refP b s k).2 ≤ k ∧ (refP b s k).1.length ≤ k ∧ b ∉ (s.take k).drop (refP b s k).2 ∧ cutV b s = (refP b s k).1 ++ cutV b (s.drop (refP b s k).2)
  | 0, _ => ⟨Nat.le_refl _, Nat.le_refl _, by simp, rfl⟩
  | k + 1, hk => by
    obtain ⟨h1, h4, h2, h3⟩ := refP_ok b s k (by omega)
    have hg : s[k]? = some s[k] := List.getElem?_eq_getElem (by omega)
    have ht : s.take (k + 1) = s.take k ++ [s[k]] := by rw [List.take_add_one, hg]; rfl
    unfold refP
    rw [hg]
    dsimp only
    by_cases e : s[k] = b
    · rw [if_pos (by simpa using e)]
      refine ⟨Nat.le_refl _, by simp; omega, by simp, ?_⟩
      rw [h3]
      have h5 : s.take k ++ b :: s.drop (k + 1) = s := by rw [← e, ← List.drop_eq_getElem_cons, List.take_append_drop]
      have this : ∀ a, a ≤ k → s.drop a = (s.take k).drop a ++ b :: s.drop (k + 1) := fun a ha => by
        have h6 := congrArg (List.drop a) h5
        rw [List.drop_append_of_le_length (by simp; omega)] at h6
        exact h6.symm
      rw [this _ h1, cutV_app h2]
      simp
    · rw [if_neg (by simpa using e)]
      refine ⟨by omega, by omega, ?_, h3⟩
      rw [ht, List.drop_append_of_le_length (by simp; omega)]
      simp only [List.mem_append, List.mem_singleton, not_or]
      exact ⟨h2, fun e2 => e e2.symm⟩

theorem rparts_sound (s : Str) (b : UInt8) (hs : s.length < 8000000000000) : SoundAt Try.prog 28 [] [Tx s, By (bI b)] (lT (cutV b s)) [] := by
  refine SoundAt.of_wpA1 (fn := Try.f28) Try.func28 rfl ?_
  conv => whnf
  refine Loops.seq s.length (fun k => [Tx s, By (bI b), .junk, .junk, .lst 1 0 [], .gl 0 1 ((refP b s k).1.map encT), I (refP b s k).2, I k, .junk, .junk, .junk, .junk, .junk, .junk, .junk, .junk, .junk, .junk, .junk, .junk, .junk, .junk, .junk, .junk, .junk, .junk, .junk, .junk, .junk, .junk, .junk, .junk, .junk, .junk, .junk]) (fun k => [⟨4, 9, 1, (refP b s k).1.map encT, 0⟩]) (fun _ => True) ?_ trivial (fun k hk _ => ?_) (fun _ => ?_)
  · exact (Weak.grow 5 9 1 rfl (.inl rfl)).trans (Weak.cov (by (conv => whnf); (repeat (refine ⟨rfl, ?_⟩; (conv => whnf))); exact trivial))
  · obtain ⟨h1, h2, _, _⟩ := refP_ok b s k (by omega)
    have hg : s[k]? = some s[k] := List.getElem?_eq_getElem hk
    conv => whnf
    refine ⟨fun h => ?_, fun h => absurd h (by simp; omega)⟩
    conv => whnf
    refine ⟨by omega, s[k], by rw [toNat_cast, hg], ?_⟩
    conv => whnf
    refine ⟨fun h3 => ?_, fun h3 => ?_⟩
    · have e : refP b s (k + 1) = ((refP b s k).1 ++ [(s.take k).drop (refP b s k).2], k + 1) := by
        show (match s[k]? with | some c => _ | none => _) = _
        rw [hg]
        dsimp only
        rw [if_pos (by have h6 : s[k] = b := UInt8.toNat_inj.1 (by simp [bI] at h3; omega); simp [h6])]
      conv => whnf
      refine ⟨by omega, by omega, by omega, by omega, ?_⟩
      rw [toNat_cast, toNat_cast]
      conv => whnf
      refine ⟨rfl, .inr rfl, by simp [maxLen]; omega, by show _ * 16 ≤ _; simp; omega, ?_⟩
      conv => whnf
      refine .inl ⟨rfl, ?_, trivial⟩
      rw [i64_nat (by omega), e]
      dsimp only
      rw [List.map_append]
      exact Weak.covD 1 (by (conv => whnf); (repeat (refine ⟨rfl, ?_⟩; (conv => whnf))); exact trivial) rfl rfl rfl rfl rfl
    · have e : refP b s (k + 1) = refP b s k := by
        show (match s[k]? with | some c => _ | none => _) = _
        rw [hg]
        dsimp only
        rw [if_neg (by simp [bI] at h3; intro e; simp at e; exact h3 (by rw [e]))]
      conv => whnf
      refine .inl ⟨rfl, ?_, trivial⟩
      rw [i64_nat (by omega), e]
      exact Weak.covD 1 (by (conv => whnf); (repeat (refine ⟨rfl, ?_⟩; (conv => whnf))); exact trivial) rfl rfl rfl rfl rfl
  · obtain ⟨h1, h2, h3, h4⟩ := refP_ok b s s.length (Nat.le_refl _)
    have h5 : cutV b s = (refP b s s.length).1 ++ [s.drop (refP b s s.length).2] := by
      rw [List.take_length] at h3
      rw [h4, cutV_none h3]
    conv => whnf
    refine ⟨fun h => absurd h (by simp), fun h => ?_⟩
    conv => whnf
    refine ⟨by simp, ?_⟩
    conv => whnf
    refine ⟨by omega, by omega, by omega, ?_⟩
    rw [toNat_cast, List.take_length]
    conv => whnf
    refine ⟨rfl, .inr rfl, by simp [maxLen]; omega, by show _ * 16 ≤ _; simp; omega, ?_⟩
    conv => whnf
    rw [h5]
    exact ⟨.inl rfl, _, .refl _, congrArg (fun x => some (C.lst 0 1 x)) (List.map_append (f := encT) (l₁ := (refP b s s.length).1) (l₂ := [s.drop (refP b s s.length).2])).symm⟩

theorem rhost_sound (s : Str) (hs : s.length < 8000000000000) : SoundAt Try.prog 21 [] [Tx s] (Bo (hostV s)) [] := by
  have hle := cut_len 46 s
  refine SoundAt.of_wpA1 (fn := Try.f21) Try.func21 rfl ?_
  conv => whnf
  refine ⟨_, _, (rparts_sound s 46 hs).frame rfl _, ?_⟩; (conv => whnf); (try (refine ⟨(rfl : (_ : Heap) = _), ?_⟩; (conv => whnf)))
  refine Loops.seq (cutV 46 s).length (fun k => [Tx s, .junk, Bo false, lT (cutV 46 s), I k, .junk, .junk, .junk, .junk, .junk, .junk, .junk, .junk, .junk, .junk, .junk, .junk, .junk, .junk, .junk, .junk, .junk]) (fun k => []) (fun k => ∀ j, (h : j < (cutV 46 s).length) → j < k → nameV (cutV 46 s)[j] = true) ?_ (by simp) (fun k hk hr => ?_) (fun hr => ?_)
  · exact Weak.cov (by (conv => whnf); (repeat (refine ⟨rfl, ?_⟩; (conv => whnf))); exact trivial)
  · have hp : (cutV 46 s)[k].length < 4611686018427387904 := by
      have := part_le 46 s k (cutV 46 s)[k] (List.getElem?_eq_getElem hk)
      omega
    conv => whnf
    refine ⟨fun h => ?_, fun h => absurd h (by simp; omega)⟩
    conv => whnf
    refine ⟨by omega, encT (cutV 46 s)[k], by rw [toNat_cast, List.getElem?_map, List.getElem?_eq_getElem hk]; rfl, ?_⟩
    conv => whnf
    refine ⟨_, _, (rname_sound (cutV 46 s)[k] hp).frame rfl _, ?_⟩; (conv => whnf); (try (refine ⟨(rfl : (_ : Heap) = _), ?_⟩; (conv => whnf)))
    refine ⟨fun h2 => ?_, fun h2 => ?_⟩
    · conv => whnf
      refine .inl ⟨rfl, ?_, ?_⟩
      · rw [i64_nat (by omega)]
        exact Weak.covD 0 (by (conv => whnf); (repeat (refine ⟨rfl, ?_⟩; (conv => whnf))); exact trivial) rfl rfl rfl rfl rfl
      · intro j hj hjk
        by_cases e : j = k
        · subst e; exact h2
        · exact hr j hj (by omega)
    · conv => whnf
      refine .inr ⟨by simp, ?_⟩
      conv => whnf
      have hall : (cutV 46 s).all nameV = false := by rw [List.all_eq_false]; exact ⟨_, List.getElem_mem hk, by simp [h2]⟩
      (exact ⟨.inl rfl, _, .refl _, congrArg (fun b => some (C.v (Value.bool b))) (by simp [hostV, hall])⟩)
  · conv => whnf
    refine ⟨fun h => absurd h (by simp), fun h => ?_⟩
    conv => whnf
    refine ⟨by simp, ?_⟩
    have hall : (cutV 46 s).all nameV = true := by rw [List.all_eq_true]; intro x hx; obtain ⟨j, hj, rfl⟩ := List.mem_iff_getElem.1 hx; exact hr j hj hj
    conv => whnf
    (repeat' (first | (refine ⟨fun _ => ?_, fun _ => ?_⟩ <;> (conv => whnf)) | fail))
    all_goals (rename_i h1; (exact ⟨.inl rfl, _, .refl _, congrArg (fun b => some (C.v (Value.bool b))) (by simp [hostV, hall]; simp at h1; omega)⟩))

theorem pat_yes {s : Str} (h : 2 < s.length) (h2 : s.take 2 = [42, 46]) : patV s = hostV (s.drop 2) := by
  have : hasP s [42, 46] = true := by simp [hasP, h2]; omega
  simp [patV, this]
theorem pat_no {s : Str} (h : s.length ≤ 2 ∨ s.take 2 ≠ [42, 46]) : patV s = (s == [42] || hostV s) := by
  cases e : hasP s [42, 46] with
  | false => simp [patV, e]
  | true =>
    simp [hasP] at e
    rcases h with h | h
    · rw [List.take_of_length_le h] at e
      rw [e.2]
      decide
    · exact absurd e.2 h

theorem rpattern_sound (s : Str) (hs : s.length < 8000000000000) : SoundAt Try.prog 23 [] [Tx s] (Bo (patV s)) [] := by
  refine SoundAt.of_wpA1 (fn := Try.f23) Try.func23 rfl ?_
  conv => whnf
  refine ⟨fun h => ?_, fun h => ?_⟩
  · (conv => whnf); (try (refine ⟨(rfl : (_ : Heap) = _), ?_⟩; (conv => whnf)))
    refine ⟨by omega, by simp, by simp at h ⊢; omega, ?_⟩
    rw [List.drop_zero, show Int.toNat 2 = 2 from rfl]
    (conv => whnf); (try (refine ⟨(rfl : (_ : Heap) = _), ?_⟩; (conv => whnf)))
    refine ⟨fun h2 => ?_, fun h2 => ?_⟩
    · (conv => whnf); (try (refine ⟨(rfl : (_ : Heap) = _), ?_⟩; (conv => whnf)))
      refine ⟨by omega, by simp at h ⊢; omega, by omega, ?_⟩
      rw [List.take_length, show Int.toNat 2 = 2 from rfl]
      (conv => whnf); (try (refine ⟨(rfl : (_ : Heap) = _), ?_⟩; (conv => whnf)))
      rw [pat_yes (by simp at h; omega) (by simpa using h2)]
      refine ⟨_, _, (rhost_sound (s.drop 2) (by simp; omega)).frame rfl _, ?_⟩; (conv => whnf); (try (refine ⟨(rfl : (_ : Heap) = _), ?_⟩; (conv => whnf)))
      (repeat' (first | (refine ⟨fun _ => ?_, fun _ => ?_⟩ <;> (conv => whnf)) | fail))
      all_goals (rename_i h3; (exact ⟨.inl rfl, _, .refl _, congrArg (fun b => some (C.v (Value.bool b))) (by exact h3.symm)⟩))
    · (conv => whnf); (try (refine ⟨(rfl : (_ : Heap) = _), ?_⟩; (conv => whnf)))
      rw [pat_no (.inr (by simpa using h2))]
      refine ⟨fun h3 => ?_, fun h3 => ?_⟩
      · (conv => whnf); (try (refine ⟨(rfl : (_ : Heap) = _), ?_⟩; (conv => whnf)))
        (exact ⟨.inl rfl, _, .refl _, congrArg (fun b => some (C.v (Value.bool b))) (by rw [h3]; rfl)⟩)
      · (conv => whnf); (try (refine ⟨(rfl : (_ : Heap) = _), ?_⟩; (conv => whnf)))
        refine ⟨_, _, (rhost_sound s hs).frame rfl _, ?_⟩; (conv => whnf); (try (refine ⟨(rfl : (_ : Heap) = _), ?_⟩; (conv => whnf)))
        (repeat' (first | (refine ⟨fun _ => ?_, fun _ => ?_⟩ <;> (conv => whnf)) | fail))
        all_goals (rename_i h4; (exact ⟨.inl rfl, _, .refl _, congrArg (fun b => some (C.v (Value.bool b))) (by rw [h3, h4]; rfl)⟩))
  · (conv => whnf); (try (refine ⟨(rfl : (_ : Heap) = _), ?_⟩; (conv => whnf)))
    rw [pat_no (.inl (by simp at h; omega))]
    refine ⟨fun h3 => ?_, fun h3 => ?_⟩
    · (conv => whnf); (try (refine ⟨(rfl : (_ : Heap) = _), ?_⟩; (conv => whnf)))
      (exact ⟨.inl rfl, _, .refl _, congrArg (fun b => some (C.v (Value.bool b))) (by rw [h3]; rfl)⟩)
    · (conv => whnf); (try (refine ⟨(rfl : (_ : Heap) = _), ?_⟩; (conv => whnf)))
      refine ⟨_, _, (rhost_sound s hs).frame rfl _, ?_⟩; (conv => whnf); (try (refine ⟨(rfl : (_ : Heap) = _), ?_⟩; (conv => whnf)))
      (repeat' (first | (refine ⟨fun _ => ?_, fun _ => ?_⟩ <;> (conv => whnf)) | fail))
      all_goals (rename_i h4; (exact ⟨.inl rfl, _, .refl _, congrArg (fun b => some (C.v (Value.bool b))) (by rw [h3, h4]; rfl)⟩))

/-! ### Rows of texts compared -/

theorem rsame_sound (a b : List Str) (ha : a.length < 4611686018427387904) (hb : b.length < 4611686018427387904) : SoundAt Try.prog 26 [] [lT a, lT b] (Bo (a == b)) [] := by
  refine SoundAt.of_wpA1 (fn := Try.f26) Try.func26 rfl ?_
  conv => whnf
  refine ⟨fun h => ?_, fun h => ?_⟩
  · (conv => whnf); (try (refine ⟨(rfl : (_ : Heap) = _), ?_⟩; (conv => whnf)))
    (exact ⟨.inl rfl, _, .refl _, congrArg (fun b => some (C.v (Value.bool b))) (by symm; rw [beq_eq_false_iff_ne]; intro e; subst e; simp at h)⟩)
  · have hl : a.length = b.length := by simp at h; omega
    (conv => whnf); (try (refine ⟨(rfl : (_ : Heap) = _), ?_⟩; (conv => whnf)))
    refine Loops.seq a.length (fun k => [lT a, lT b, .junk, .junk, Bo false, I k, .junk, .junk, .junk, .junk, .junk, .junk, .junk, .junk, .junk, .junk, .junk, .junk, .junk, .junk, .junk, .junk, .junk, .junk, .junk, .junk]) (fun k => []) (fun k => ∀ j, (h : j < a.length) → j < k → a[j] = b[j]'(by omega)) ?_ (by simp) (fun k hk hr => ?_) (fun hr => ?_)
    · exact Weak.cov (by (conv => whnf); (repeat (refine ⟨rfl, ?_⟩; (conv => whnf))); exact trivial)
    · conv => whnf
      refine ⟨fun h => ?_, fun h => absurd h (by simp; omega)⟩
      conv => whnf
      refine .inl ⟨by kernel_rfl, ?_⟩; (conv => whnf)
      refine ⟨by omega, encT a[k], by simp [hk], ?_⟩
      (conv => whnf); (try (refine ⟨(rfl : (_ : Heap) = _), ?_⟩; (conv => whnf)))
      refine ⟨by omega, encT (b[k]'(by omega)), by rw [toNat_cast, List.getElem?_map, List.getElem?_eq_getElem (by omega)]; rfl, ?_⟩
      (conv => whnf); (try (refine ⟨(rfl : (_ : Heap) = _), ?_⟩; (conv => whnf)))
      refine ⟨fun h2 => ?_, fun h2 => ?_⟩
      · (conv => whnf); (try (refine ⟨(rfl : (_ : Heap) = _), ?_⟩; (conv => whnf)))
        refine .inr ⟨by simp, ?_⟩
        conv => whnf
        (exact ⟨.inl rfl, _, .refl _, congrArg (fun b => some (C.v (Value.bool b))) (by symm; rw [beq_eq_false_iff_ne]; intro e; subst e; simp at h2)⟩)
      · (conv => whnf); (try (refine ⟨(rfl : (_ : Heap) = _), ?_⟩; (conv => whnf)))
        refine .inl ⟨rfl, ?_, ?_⟩
        · rw [i64_nat (by omega)]
          exact Weak.covD 0 (by (conv => whnf); (repeat (refine ⟨rfl, ?_⟩; (conv => whnf))); exact trivial) rfl rfl rfl rfl rfl
        · intro j hj hjk
          by_cases e : j = k
          · subst e; simpa using h2
          · exact hr j hj (by omega)
    · conv => whnf
      refine ⟨fun h => absurd h (by simp), fun h => ?_⟩
      conv => whnf
      refine ⟨by simp, ?_⟩
      conv => whnf
      (exact ⟨.inl rfl, _, .refl _, congrArg (fun b => some (C.v (Value.bool b))) (by symm; rw [beq_iff_eq]; exact List.ext_getElem hl fun j h1 h2 => hr j h1 h1)⟩)

end Go.Nam
