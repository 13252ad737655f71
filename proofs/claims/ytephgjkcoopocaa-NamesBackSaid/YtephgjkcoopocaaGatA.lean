/- Layer 3 (names): names, walked, in the program and in the reference. -/
import Derived.Test.YtephgjkcoopocaaAbN
import Derived.Test.YtephgjkcoopocaaApi
import Derived.Test.YtephgjkcoopocaaProg
namespace Go.Gat
open Go.Ab Go.Proofs Go.Hy
set_option linter.unusedVariables false
set_option maxRecDepth 8000

def lowI (n : Int) : Bool := decide (97 ≤ n) && decide (n ≤ 122)
def wordI (n : Int) : Bool := lowI n || (decide (48 ≤ n) && decide (n ≤ 57)) || (n == 45)
abbrev By (n : Int) : C := .v (.int .u8 n)

theorem low_sound (n : Int) : SoundAt Try.prog 54 [] [By n] (Bo (lowI n)) [] := by
  refine SoundAt.of_wpA1 (fn := Try.f54) Try.func54 rfl ?_
  conv => whnf
  (repeat' (first | (refine ⟨fun _ => ?_, fun _ => ?_⟩ <;> (conv => whnf)) | fail))
  all_goals (exact ⟨.inl rfl, _, .refl _, congrArg (fun b => some (C.v (Value.bool b))) (by simp_all [lowI] <;> (intros; omega))⟩)
theorem rlow_sound (n : Int) : SoundAt Try.prog 57 [] [By n] (Bo (lowI n)) [] := by
  refine SoundAt.of_wpA1 (fn := Try.f57) Try.func57 rfl ?_
  conv => whnf
  (repeat' (first | (refine ⟨fun _ => ?_, fun _ => ?_⟩ <;> (conv => whnf)) | fail))
  all_goals (exact ⟨.inl rfl, _, .refl _, congrArg (fun b => some (C.v (Value.bool b))) (by simp_all [lowI] <;> (intros; omega))⟩)

theorem word1_sound (n : Int) : SoundAt Try.prog 78 [] [By n] (Bo (wordI n)) [] := by
  refine SoundAt.of_wpA1 (fn := Try.f78) Try.func78 rfl ?_
  conv => whnf
  refine ⟨_, _, (low_sound n).frame rfl _, ?_⟩; (conv => whnf); (try (refine ⟨(rfl : (_ : Heap) = _), ?_⟩; (conv => whnf)))
  (repeat' (first | (refine ⟨fun _ => ?_, fun _ => ?_⟩ <;> (conv => whnf)) | fail))
  all_goals (exact ⟨.inl rfl, _, .refl _, congrArg (fun b => some (C.v (Value.bool b))) (by simp_all [wordI] <;> (intros; omega))⟩)
theorem rword_sound (n : Int) : SoundAt Try.prog 58 [] [By n] (Bo (wordI n)) [] := by
  refine SoundAt.of_wpA1 (fn := Try.f58) Try.func58 rfl ?_
  conv => whnf
  refine ⟨_, _, (rlow_sound n).frame rfl _, ?_⟩; (conv => whnf); (try (refine ⟨(rfl : (_ : Heap) = _), ?_⟩; (conv => whnf)))
  (repeat' (first | (refine ⟨fun _ => ?_, fun _ => ?_⟩ <;> (conv => whnf)) | fail))
  all_goals (exact ⟨.inl rfl, _, .refl _, congrArg (fun b => some (C.v (Value.bool b))) (by simp_all [wordI] <;> (intros; omega))⟩)

theorem word_sound : SoundAt Try.prog 55 [] [] (.agg [.fn 78 [] []]) [] := by
  refine SoundAt.of_wpA1 (fn := Try.f55) Try.func55 rfl ?_
  conv => whnf
  exact ⟨.inl rfl, _, .refl _, rfl⟩

abbrev bI (c : UInt8) : Int := (c.toNat : Int)
/-- All bytes of a text are another one, or as it is asked for. -/
def allV (p : Int → Bool) (s : Str) (other : Int) : Bool := s.all fun c => bI c == other || p (bI c)
theorem allV_false {p : Int → Bool} {s : Str} {other : Int} {k : Nat} (hk : k < s.length) (h1 : (bI s[k] == other) = false) (h2 : p (bI s[k]) = false) : allV p s other = false := by
  unfold allV
  rw [List.all_eq_false]
  exact ⟨s[k], List.getElem_mem hk, by simp [h1, h2]⟩

theorem all_sound (s : Str) (other : Int) (hs : s.length < 4611686018427387904) : SoundAt Try.prog 56 [] [.agg [.fn 78 [] []], Tx s, By other] (Bo (allV wordI s other)) [] := by
  refine SoundAt.of_wpA1 (fn := Try.f56) Try.func56 rfl ?_
  conv => whnf
  refine Loops.seq s.length (fun k => [.agg [.fn 78 [] []], Tx s, By other, .ref 0 [] 1 0 0, .junk, .junk, Bo false, .junk, .junk, I s.length, I k, .junk, .junk, .junk, .junk, .junk, .junk, .junk, .junk, .junk, .junk, .junk, .junk, .junk, .junk, .junk, .junk, .junk]) (fun k => [⟨1, 69, 1, [[.fn 78 [] []]], 0⟩]) (fun k => ∀ j, (h : j < s.length) → j < k → (bI s[j] == other || wordI (bI s[j])) = true) ?_ (by simp) (fun k hk hr => ?_) (fun hr => ?_)
  · exact Weak.cov (by (conv => whnf); (repeat (refine ⟨rfl, ?_⟩; (conv => whnf))); exact trivial)
  · conv => whnf
    refine ⟨fun h => ?_, fun h => absurd h (by simp; omega)⟩
    conv => whnf
    refine .inl ⟨by kernel_rfl, ?_⟩; (conv => whnf)
    refine ⟨by omega, s[k], by simp [hk], ?_⟩
    conv => whnf
    refine ⟨fun h1 => ?_, fun h1 => ?_⟩
    · (conv => whnf); (try (refine ⟨(rfl : (_ : Heap) = _), ?_⟩; (conv => whnf)))
      refine ⟨by omega, s[k], by simp [hk], ?_⟩
      (conv => whnf); (try (refine ⟨(rfl : (_ : Heap) = _), ?_⟩; (conv => whnf)))
      refine ⟨_, _, (word1_sound (bI s[k])).frame rfl _, ?_⟩; (conv => whnf); (try (refine ⟨(rfl : (_ : Heap) = _), ?_⟩; (conv => whnf)))
      refine ⟨fun h2 => ?_, fun h2 => ?_⟩
      · (conv => whnf); (try (refine ⟨(rfl : (_ : Heap) = _), ?_⟩; (conv => whnf)))
        refine .inl ⟨rfl, ?_, ?_⟩
        · rw [i64_nat (by omega)]
          exact Weak.covD 1 (by (conv => whnf); (repeat (refine ⟨rfl, ?_⟩; (conv => whnf))); exact trivial) rfl rfl rfl rfl rfl
        · intro j hj hjk
          by_cases e : j = k
          · subst e; simp [h2]
          · exact hr j hj (by omega)
      · (conv => whnf); (try (refine ⟨(rfl : (_ : Heap) = _), ?_⟩; (conv => whnf)))
        refine .inr ⟨by simp, ?_⟩
        conv => whnf
        (exact ⟨.inl rfl, _, .refl _, congrArg (fun b => some (C.v (Value.bool b))) (by exact (allV_false hk (by simpa using h1) h2).symm)⟩)
    · (conv => whnf); (try (refine ⟨(rfl : (_ : Heap) = _), ?_⟩; (conv => whnf)))
      refine .inl ⟨rfl, ?_, ?_⟩
      · rw [i64_nat (by omega)]
        exact Weak.covD 1 (by (conv => whnf); (repeat (refine ⟨rfl, ?_⟩; (conv => whnf))); exact trivial) rfl rfl rfl rfl rfl
      · intro j hj hjk
        by_cases e : j = k
        · subst e; simp at h1; simp [h1]
        · exact hr j hj (by omega)
  · conv => whnf
    refine ⟨fun h => absurd h (by simp), fun h => ?_⟩
    conv => whnf
    refine ⟨by simp, ?_⟩
    conv => whnf
    have e : allV wordI s other = true := by
      unfold allV
      rw [List.all_eq_true]
      intro x hx
      obtain ⟨j, hj, rfl⟩ := List.mem_iff_getElem.1 hx
      exact hr j hj hj
    exact ⟨.inl rfl, _, .refl _, by rw [e]; rfl⟩

/-- A name. -/
def nameV (s : Str) : Bool := decide (0 < s.length) && decide (s.length ≤ 16) && (match s with | c :: _ => lowI (bI c) | [] => false) && s.all fun c => wordI (bI c)
theorem allV_dash (s : Str) : allV wordI s 45 = s.all fun c => wordI (bI c) := by
  unfold allV
  congr 1
  funext c
  cases h : (bI c == 45) with
  | false => rfl
  | true => simp at h; simp [wordI, h]

theorem name_sound (s : Str) (hs : s.length < 4611686018427387904) : SoundAt Try.prog 18 [] [Tx s] (Bo (nameV s)) [] := by
  refine SoundAt.of_wpA1 (fn := Try.f18) Try.func18 rfl ?_
  cases s with
  | nil =>
    conv => whnf
    (repeat (first | (refine ⟨fun _ => ?_, fun h => absurd h (by decide)⟩; (conv => whnf); (try (refine ⟨(rfl : (_ : Heap) = _), ?_⟩; (conv => whnf)))) | (refine ⟨fun h => absurd h (by decide), fun _ => ?_⟩; (conv => whnf); (try (refine ⟨(rfl : (_ : Heap) = _), ?_⟩; (conv => whnf))))))
    exact ⟨.inl rfl, _, .refl _, rfl⟩
  | cons c s =>
    conv => whnf
    refine ⟨fun _ => ?_, fun h => absurd h (by simp <;> omega)⟩
    conv => whnf
    refine ⟨fun h1 => ?_, fun h1 => ?_⟩
    · conv => whnf
      refine ⟨by omega, c, rfl, ?_⟩
      conv => whnf
      refine ⟨_, _, (low_sound (bI c)).frame rfl _, ?_⟩; (conv => whnf); (try (refine ⟨(rfl : (_ : Heap) = _), ?_⟩; (conv => whnf)))
      refine ⟨fun h2 => ?_, fun h2 => ?_⟩
      · conv => whnf
        refine ⟨_, _, (word_sound).frame rfl _, ?_⟩; (conv => whnf); (try (refine ⟨(rfl : (_ : Heap) = _), ?_⟩; (conv => whnf)))
        refine ⟨_, _, (all_sound (c :: s) 45 hs).frame rfl _, ?_⟩; (conv => whnf); (try (refine ⟨(rfl : (_ : Heap) = _), ?_⟩; (conv => whnf)))
        have h1' : s.length ≤ 15 := by have := h1; simp at this; omega
        have e : nameV (c :: s) = allV wordI (c :: s) 45 := by rw [allV_dash]; unfold nameV; simp [h2]; omega
        refine ⟨fun h3 => ?_, fun h3 => ?_⟩
        all_goals ((conv => whnf); (exact ⟨.inl rfl, _, .refl _, congrArg (fun b => some (C.v (Value.bool b))) (by rw [e, h3])⟩))
      · conv => whnf
        (exact ⟨.inl rfl, _, .refl _, congrArg (fun b => some (C.v (Value.bool b))) (by simp [nameV, h2])⟩)
    · conv => whnf
      (exact ⟨.inl rfl, _, .refl _, congrArg (fun b => some (C.v (Value.bool b))) (by simp [nameV]; simp at h1; omega)⟩)

theorem rname_sound (s : Str) (hs : s.length < 4611686018427387904) : SoundAt Try.prog 19 [] [Tx s] (Bo (nameV s)) [] := by
  refine SoundAt.of_wpA1 (fn := Try.f19) Try.func19 rfl ?_
  cases s with
  | nil =>
    conv => whnf
    (repeat (first | (refine ⟨fun _ => ?_, fun h => absurd h (by decide)⟩; (conv => whnf); (try (refine ⟨(rfl : (_ : Heap) = _), ?_⟩; (conv => whnf)))) | (refine ⟨fun h => absurd h (by decide), fun _ => ?_⟩; (conv => whnf); (try (refine ⟨(rfl : (_ : Heap) = _), ?_⟩; (conv => whnf))))))
    exact ⟨.inl rfl, _, .refl _, rfl⟩
  | cons c s =>
    conv => whnf
    refine ⟨fun h => absurd h (by simp <;> omega), fun _ => ?_⟩
    conv => whnf
    refine ⟨fun h1 => ?_, fun h1 => ?_⟩
    · conv => whnf
      (exact ⟨.inl rfl, _, .refl _, congrArg (fun b => some (C.v (Value.bool b))) (by simp [nameV]; simp at h1; omega)⟩)
    · conv => whnf
      refine ⟨by omega, c, rfl, ?_⟩
      conv => whnf
      refine ⟨_, _, (rlow_sound (bI c)).frame rfl _, ?_⟩; (conv => whnf); (try (refine ⟨(rfl : (_ : Heap) = _), ?_⟩; (conv => whnf)))
      refine ⟨fun h2 => ?_, fun h2 => ?_⟩
      · conv => whnf
        have h1' : s.length ≤ 15 := by have := h1; simp at this; omega
        have e : nameV (c :: s) = (c :: s).all fun c => wordI (bI c) := by unfold nameV; simp [h2]; omega
        rw [e]
        clear e h2 h1
        refine Loops.seq (c :: s).length (fun k => [Tx (c :: s), .junk, Bo false, I k, .junk, .junk, .junk, .junk, .junk, .junk, .junk, .junk, .junk, .junk, .junk, .junk, .junk, .junk, .junk, .junk, .junk, .junk, .junk, .junk, .junk, .junk, .junk, .junk, .junk]) (fun k => []) (fun k => ∀ j, (h : j < (c :: s).length) → j < k → wordI (bI (c :: s)[j]) = true) ?_ (by simp) (fun k hk hr => ?_) (fun hr => ?_)
        · exact Weak.cov (by (conv => whnf); (repeat (refine ⟨rfl, ?_⟩; (conv => whnf))); exact trivial)
        · conv => whnf
          refine ⟨fun h => ?_, fun h => absurd h (by simp at hk ⊢; omega)⟩
          conv => whnf
          refine ⟨by omega, (c :: s)[k], by rw [toNat_cast, List.getElem?_eq_getElem hk], ?_⟩
          conv => whnf
          refine ⟨_, _, (rword_sound (bI (c :: s)[k])).frame rfl _, ?_⟩; (conv => whnf); (try (refine ⟨(rfl : (_ : Heap) = _), ?_⟩; (conv => whnf)))
          refine ⟨fun h2 => ?_, fun h2 => ?_⟩
          · conv => whnf
            refine .inl ⟨rfl, ?_, ?_⟩
            · rw [i64_nat (by omega)]
              exact Weak.covD 0 (by (conv => whnf); (repeat (refine ⟨rfl, ?_⟩; (conv => whnf))); exact trivial) rfl rfl rfl rfl rfl
            · intro j hj hjk
              by_cases e : j = k
              · subst e; exact h2
              · exact hr j hj (by omega)
          · conv => whnf
            refine .inr ⟨by simp, ?_⟩
            conv => whnf
            (exact ⟨.inl rfl, _, .refl _, congrArg (fun b => some (C.v (Value.bool b))) (by symm; rw [List.all_eq_false]; exact ⟨_, List.getElem_mem hk, by simp [h2]⟩)⟩)
        · conv => whnf
          refine ⟨fun h => absurd h (by simp), fun h => ?_⟩
          conv => whnf
          refine ⟨by simp, ?_⟩
          conv => whnf
          (exact ⟨.inl rfl, _, .refl _, congrArg (fun b => some (C.v (Value.bool b))) (by symm; rw [List.all_eq_true]; intro x hx; obtain ⟨j, hj, rfl⟩ := List.mem_iff_getElem.1 hx; exact hr j hj hj)⟩)
      · conv => whnf
        (exact ⟨.inl rfl, _, .refl _, congrArg (fun b => some (C.v (Value.bool b))) (by simp [nameV, h2])⟩)

end Go.Gat
