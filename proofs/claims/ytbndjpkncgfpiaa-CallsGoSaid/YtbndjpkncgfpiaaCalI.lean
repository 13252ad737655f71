/- Layer 10 (calls): two calls of two threads, walked. -/
import Derived.Test.YtbndjpkncgfpiaaCalH
namespace Go.Cal
open Go.Ab Go.Proofs Go.Hy
set_option linter.unusedVariables false
set_option maxRecDepth 100000

theorem sameI_sound (a b : List Int) (ha : a.length < 4611686018427387904) (hb : b.length < 4611686018427387904) : SoundAt Try.prog 11 [] [lI a, lI b] (Bo (a == b)) [] := by
  refine SoundAt.of_wpA1 (fn := Try.f11) Try.func11 rfl ?_
  conv => whnf
  refine ⟨fun h => ?_, fun h => ?_⟩
  · (conv => whnf); (try (refine ⟨(rfl : (_ : Heap) = _), ?_⟩; (conv => whnf)))
    (exact ⟨.inl rfl, _, .refl _, congrArg (fun b => some (C.v (Value.bool b))) (by symm; rw [beq_eq_false_iff_ne]; intro e; subst e; simp at h)⟩)
  · have hl : a.length = b.length := by simp at h; omega
    (conv => whnf); (try (refine ⟨(rfl : (_ : Heap) = _), ?_⟩; (conv => whnf)))
    refine Loops.seq a.length (fun k => [lI a, lI b, .junk, .junk, Bo false, I k, .junk, .junk, .junk, .junk, .junk, .junk, .junk, .junk, .junk, .junk, .junk, .junk, .junk, .junk, .junk, .junk, .junk, .junk, .junk, .junk]) (fun k => []) (fun k => ∀ j, (h : j < a.length) → j < k → a[j] = b[j]'(by omega)) ?_ (by simp) (fun k hk hr => ?_) (fun hr => ?_)
    · exact Weak.cov (by (conv => whnf); (repeat (refine ⟨rfl, ?_⟩; (conv => whnf))); exact trivial)
    · conv => whnf
      refine ⟨fun h => ?_, fun h => absurd h (by simp; omega)⟩
      conv => whnf
      refine ⟨⟨false, [], []⟩, by kernel_rfl, ?_⟩; (conv => whnf)
      refine ⟨by omega, encI a[k], by simp [hk], ?_⟩
      (conv => whnf); (try (refine ⟨(rfl : (_ : Heap) = _), ?_⟩; (conv => whnf)))
      refine ⟨by omega, encI (b[k]'(by omega)), by rw [toNat_cast, List.getElem?_map, List.getElem?_eq_getElem (by omega)]; rfl, ?_⟩
      (conv => whnf); (try (refine ⟨(rfl : (_ : Heap) = _), ?_⟩; (conv => whnf)))
      refine ⟨fun h2 => ?_, fun h2 => ?_⟩
      · (conv => whnf); (try (refine ⟨(rfl : (_ : Heap) = _), ?_⟩; (conv => whnf)))
        refine .inr ⟨by simp, ?_⟩
        conv => whnf
        (exact ⟨.inl rfl, _, .refl _, congrArg (fun b => some (C.v (Value.bool b))) (by symm; rw [beq_eq_false_iff_ne]; intro e; subst e; simp at h2)⟩)
      · (conv => whnf); (try (refine ⟨(rfl : (_ : Heap) = _), ?_⟩; (conv => whnf)))
        refine .inl ⟨rfl, ?_, ?_⟩
        · rw [i64_nat (by omega)]
          exact Weak.covD 0 (by (conv => whnf); (repeat (refine ⟨rfl, ?_⟩; (conv => whnf))); exact trivial) rfl rfl rfl rfl rfl
        · intro j hj hjk
          by_cases e : j = k
          · subst e; simpa using h2
          · exact hr j hj (by omega)
    · conv => whnf
      refine ⟨fun h => absurd h (by simp), fun h => ?_⟩
      conv => whnf
      refine ⟨by simp, ?_⟩
      conv => whnf
      (exact ⟨.inl rfl, _, .refl _, congrArg (fun b => some (C.v (Value.bool b))) (by symm; rw [beq_iff_eq]; exact List.ext_getElem hl fun j h1 h2 => hr j h1 h1)⟩)

def sameEV (a b : En) : Bool := a.head == b.head && a.active == b.active && a.next == b.next
abbrev ans4 : Ans := ⟨4, 0, 0, 0, 0, 0, 0, six0⟩
abbrev p0 : Eve := ⟨1, 0, 0, 0, 0, false, 0, true, false, false, ans0⟩
abbrev p1 : Eve := ⟨0, 0, 0, 0, 0, false, 0, true, true, false, ans0⟩
abbrev p2 : Eve := ⟨0, 0, 0, 0, 0, false, 0, false, false, true, ans4⟩
abbrev p3 : Eve := ⟨1, 0, 0, 0, 0, false, 0, false, true, false, ans0⟩
abbrev p4 : Eve := ⟨0, 0, 0, 0, 0, false, 0, true, false, false, ans0⟩
abbrev p5 : Eve := ⟨0, 1, 0, 0, 0, false, 0, true, false, true, ans0⟩
abbrev plainL : List Eve := [p0, p1, p2, p3]

theorem plain_sound : SoundAt Try.prog 34 [] [] (.lst 1 23 (plainL.map encEv)) [] := by
  refine SoundAt.of_wpA1 (fn := Try.f34) Try.func34 rfl ?_
  conv => whnf
  exact ⟨.inl rfl, _, .refl _, rfl⟩

abbrev cA : Cal := ⟨1, 0, 0, 3, -1, ans0⟩
abbrev cB : Cal := ⟨0, 0, 1, 1, 2, ans4⟩
abbrev cD : Cal := ⟨0, 1, 3, -1, 3, ans0⟩
abbrev cA3 : Cal := ⟨1, 0, 0, -1, -1, ans0⟩

theorem of0 : ofV plainL = ([cA, cB], 0) := by kernel_rfl
theorem of1 : ofV [p1, p2, p3] = ([], 11) := by kernel_rfl
theorem of2 : ofV [p0, p1, p2, p4] = ([], 11) := by kernel_rfl
theorem of3 : ofV [p0, p1, p2, p5] = ([cA3, cB, cD], 0) := by kernel_rfl

theorem traced_sound (O2 : SoundAt Try.prog 12 [] [lCal [cA, cB]] (lI [1, 0]) []) (O0 : SoundAt Try.prog 12 [] [.lst 1 0 []] (.lst 1 0 []) []) : SoundAt Try.prog 10 [] [] (Bo true) [] := by
  refine SoundAt.of_wpA1 (fn := Try.f10) Try.func10 rfl ?_
  conv => whnf
  have s0 : SoundAt Try.prog 14 [] [lEv plainL] (tC ([cA, cB], 0)) [] := by rw [← of0]; exact of_sound _ (by decide)
  have s1 : SoundAt Try.prog 14 [] [lEv [p1, p2, p3]] (tC ([], 11)) [] := by rw [← of1]; exact of_sound _ (by decide)
  have s2 : SoundAt Try.prog 14 [] [lEv [p0, p1, p2, p4]] (tC ([], 11)) [] := by rw [← of2]; exact of_sound _ (by decide)
  have s3 : SoundAt Try.prog 14 [] [lEv [p0, p1, p2, p5]] (tC ([cA3, cB, cD], 0)) [] := by rw [← of3]; exact of_sound _ (by decide)
  refine ⟨_, _, (plain_sound).frame rfl _, ?_⟩; (conv => whnf); (try (refine ⟨(rfl : (_ : Heap) = _), ?_⟩; (conv => whnf)))
  refine ⟨_, _, (s0.pre (.cons (WC.share 1 23 _) .nil)).frame rfl _, ?_⟩
  (conv => whnf); (try (refine ⟨(rfl : (_ : Heap) = _), ?_⟩; (conv => whnf)))
  refine ⟨.inr rfl, ?_⟩
  (conv => whnf); (try (refine ⟨(rfl : (_ : Heap) = _), ?_⟩; (conv => whnf)))
  refine ⟨by decide, by decide, ?_⟩
  (conv => whnf); (try (refine ⟨(rfl : (_ : Heap) = _), ?_⟩; (conv => whnf)))
  refine ⟨_, _, (s1.pre (.cons (WC.share 1 23 _) .nil)).frame rfl _, ?_⟩
  (conv => whnf); (try (refine ⟨(rfl : (_ : Heap) = _), ?_⟩; (conv => whnf)))
  refine ⟨.inr rfl, ?_⟩
  (conv => whnf); (try (refine ⟨(rfl : (_ : Heap) = _), ?_⟩; (conv => whnf)))
  refine ⟨by decide, ?_⟩
  (conv => whnf); (try (refine ⟨(rfl : (_ : Heap) = _), ?_⟩; (conv => whnf)))
  refine ⟨by decide, rfl, by decide, by decide, ?_⟩
  (conv => whnf); (try (refine ⟨(rfl : (_ : Heap) = _), ?_⟩; (conv => whnf)))
  refine .inl ?_
  conv => whnf
  refine ⟨.inr rfl, .inr rfl, Nat.le_of_ble_eq_true rfl, Nat.le_of_ble_eq_true rfl, ?_⟩
  (conv => whnf); (try (refine ⟨(rfl : (_ : Heap) = _), ?_⟩; (conv => whnf)))
  refine ⟨_, _, s2.frame rfl _, ?_⟩
  (conv => whnf); (try (refine ⟨(rfl : (_ : Heap) = _), ?_⟩; (conv => whnf)))
  refine ⟨.inr rfl, ?_⟩
  (conv => whnf); (try (refine ⟨(rfl : (_ : Heap) = _), ?_⟩; (conv => whnf)))
  refine ⟨by decide, ?_⟩
  (conv => whnf); (try (refine ⟨(rfl : (_ : Heap) = _), ?_⟩; (conv => whnf)))
  refine ⟨by decide, rfl, by decide, by decide, ?_⟩
  (conv => whnf); (try (refine ⟨(rfl : (_ : Heap) = _), ?_⟩; (conv => whnf)))
  refine .inl ?_
  conv => whnf
  refine ⟨.inr rfl, .inr rfl, Nat.le_of_ble_eq_true rfl, Nat.le_of_ble_eq_true rfl, ?_⟩
  (conv => whnf); (try (refine ⟨(rfl : (_ : Heap) = _), ?_⟩; (conv => whnf)))
  refine ⟨_, _, s3.frame rfl _, ?_⟩
  (conv => whnf); (try (refine ⟨(rfl : (_ : Heap) = _), ?_⟩; (conv => whnf)))
  (repeat (first | (refine ⟨fun _ => ?_, fun h => absurd h (by decide)⟩; (conv => whnf); (try (refine ⟨(rfl : (_ : Heap) = _), ?_⟩; (conv => whnf)))) | (refine ⟨fun h => absurd h (by decide), fun _ => ?_⟩; (conv => whnf); (try (refine ⟨(rfl : (_ : Heap) = _), ?_⟩; (conv => whnf))))))
  refine ⟨⟨false, [], []⟩, by kernel_rfl, ?_⟩; (conv => whnf)
  (repeat (first | (refine ⟨fun _ => ?_, fun h => absurd h (by decide)⟩; (conv => whnf); (try (refine ⟨(rfl : (_ : Heap) = _), ?_⟩; (conv => whnf)))) | (refine ⟨fun h => absurd h (by decide), fun _ => ?_⟩; (conv => whnf); (try (refine ⟨(rfl : (_ : Heap) = _), ?_⟩; (conv => whnf))))))
  refine ⟨by decide, _, rfl, ?_⟩
  (conv => whnf); (try (refine ⟨(rfl : (_ : Heap) = _), ?_⟩; (conv => whnf)))
  refine ⟨by kernel_rfl, ?_⟩
  (conv => whnf); (try (refine ⟨(rfl : (_ : Heap) = _), ?_⟩; (conv => whnf)))
  (repeat (first | (refine ⟨fun _ => ?_, fun h => absurd h (by decide)⟩; (conv => whnf); (try (refine ⟨(rfl : (_ : Heap) = _), ?_⟩; (conv => whnf)))) | (refine ⟨fun h => absurd h (by decide), fun _ => ?_⟩; (conv => whnf); (try (refine ⟨(rfl : (_ : Heap) = _), ?_⟩; (conv => whnf))))))
  refine ⟨by decide, _, rfl, ?_⟩
  (conv => whnf); (try (refine ⟨(rfl : (_ : Heap) = _), ?_⟩; (conv => whnf)))
  refine ⟨by kernel_rfl, ?_⟩
  (conv => whnf); (try (refine ⟨(rfl : (_ : Heap) = _), ?_⟩; (conv => whnf)))
  (repeat (first | (refine ⟨fun _ => ?_, fun h => absurd h (by decide)⟩; (conv => whnf); (try (refine ⟨(rfl : (_ : Heap) = _), ?_⟩; (conv => whnf)))) | (refine ⟨fun h => absurd h (by decide), fun _ => ?_⟩; (conv => whnf); (try (refine ⟨(rfl : (_ : Heap) = _), ?_⟩; (conv => whnf))))))
  refine ⟨by decide, _, rfl, ?_⟩
  (conv => whnf); (try (refine ⟨(rfl : (_ : Heap) = _), ?_⟩; (conv => whnf)))
  refine ⟨by decide, _, rfl, ?_⟩
  (conv => whnf); (try (refine ⟨(rfl : (_ : Heap) = _), ?_⟩; (conv => whnf)))
  refine ⟨_, _, (ahead_sound cB cD).frame rfl _, ?_⟩; (conv => whnf); (try (refine ⟨(rfl : (_ : Heap) = _), ?_⟩; (conv => whnf)))
  (repeat (first | (refine ⟨fun _ => ?_, fun h => absurd h (by decide)⟩; (conv => whnf); (try (refine ⟨(rfl : (_ : Heap) = _), ?_⟩; (conv => whnf)))) | (refine ⟨fun h => absurd h (by decide), fun _ => ?_⟩; (conv => whnf); (try (refine ⟨(rfl : (_ : Heap) = _), ?_⟩; (conv => whnf))))))
  refine ⟨by decide, _, rfl, ?_⟩
  (conv => whnf); (try (refine ⟨(rfl : (_ : Heap) = _), ?_⟩; (conv => whnf)))
  refine ⟨by decide, _, rfl, ?_⟩
  (conv => whnf); (try (refine ⟨(rfl : (_ : Heap) = _), ?_⟩; (conv => whnf)))
  refine ⟨_, _, (ahead_sound cA3 cD).frame rfl _, ?_⟩; (conv => whnf); (try (refine ⟨(rfl : (_ : Heap) = _), ?_⟩; (conv => whnf)))
  (repeat (first | (refine ⟨fun _ => ?_, fun h => absurd h (by decide)⟩; (conv => whnf); (try (refine ⟨(rfl : (_ : Heap) = _), ?_⟩; (conv => whnf)))) | (refine ⟨fun h => absurd h (by decide), fun _ => ?_⟩; (conv => whnf); (try (refine ⟨(rfl : (_ : Heap) = _), ?_⟩; (conv => whnf))))))
  refine ⟨_, _, (O2).frame rfl _, ?_⟩; (conv => whnf); (try (refine ⟨(rfl : (_ : Heap) = _), ?_⟩; (conv => whnf)))
  have q : SoundAt Try.prog 11 [] [lI [1, 0], .lst 1 1 (([1, 0] : List Int).map encI)] (Bo true) [] := (sameI_sound [1, 0] [1, 0] (by decide) (by decide)).pre (.cons (.refl _) (.cons (WC.share 1 1 _) .nil))
  refine ⟨_, _, (q).frame rfl _, ?_⟩; (conv => whnf); (try (refine ⟨(rfl : (_ : Heap) = _), ?_⟩; (conv => whnf)))
  (repeat (first | (refine ⟨fun _ => ?_, fun h => absurd h (by decide)⟩; (conv => whnf); (try (refine ⟨(rfl : (_ : Heap) = _), ?_⟩; (conv => whnf)))) | (refine ⟨fun h => absurd h (by decide), fun _ => ?_⟩; (conv => whnf); (try (refine ⟨(rfl : (_ : Heap) = _), ?_⟩; (conv => whnf))))))
  refine ⟨_, _, (O0).frame rfl _, ?_⟩; (conv => whnf); (try (refine ⟨(rfl : (_ : Heap) = _), ?_⟩; (conv => whnf)))
  (repeat (first | (refine ⟨fun _ => ?_, fun h => absurd h (by decide)⟩; (conv => whnf); (try (refine ⟨(rfl : (_ : Heap) = _), ?_⟩; (conv => whnf)))) | (refine ⟨fun h => absurd h (by decide), fun _ => ?_⟩; (conv => whnf); (try (refine ⟨(rfl : (_ : Heap) = _), ?_⟩; (conv => whnf))))))
  exact ⟨.inl rfl, _, .refl _, rfl⟩

end Go.Cal
