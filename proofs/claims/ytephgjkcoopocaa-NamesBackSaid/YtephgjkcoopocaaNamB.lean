/- Layer 3 (names): the iterator of parts, walked; over whatever else stands in the heap. -/
import Derived.Test.YtephgjkcoopocaaNamA
namespace Go.Nam
open Go.Ab Go.Proofs Go.Hy Go.Gat
set_option linter.unusedVariables false
set_option maxRecDepth 8000

/-- parts, over one object. -/
theorem parts_sound (X : Ob) (s : Str) (b : UInt8) : SoundAt Try.prog 59 [X] [Tx s, By (bI b)] (.fn 79 [] [.ref 1 [] 1 0 0, .ref 2 [] 1 0 0]) [X, ⟨1, 9, 1, [[Tx s]], 0⟩, ⟨1, 5, 1, [[By (bI b)]], 0⟩] := by
  refine SoundAt.of_wpA (fn := Try.f59) Try.func59 rfl ?_
  conv => whnf
  exact ⟨.inl rfl, _, .refl _, rfl, rfl⟩


/-- **The iterator**: it stops behind part j, that yield refuses, or that is the last one. -/
theorem parts1_sound (l : Nat) (s : Str) (b : UInt8) (hs : s.length < 4611686018427387904) (X : Nat → Ob) (Y : Nat → List Ob) (j : Nat) (g : Bool) (hj : j < (cutV b s).length) (hend : g = false ∨ j + 1 = (cutV b s).length)
    (hy : ∀ k p, k < j → (cutV b s)[k]? = some p → YieldS Try.prog l (X k :: ⟨1, 9, 1, [[Tx (restV b s k)]], 0⟩ :: ⟨1, 5, 1, [[By (bI b)]], 0⟩ :: Y k) [Tx p] (Bo true) (X (k + 1) :: ⟨1, 9, 1, [[Tx (restV b s k)]], 0⟩ :: ⟨1, 5, 1, [[By (bI b)]], 0⟩ :: Y (k + 1)))
    (hz : ∀ p, (cutV b s)[j]? = some p → YieldS Try.prog l (X j :: ⟨1, 9, 1, [[Tx (restV b s j)]], 0⟩ :: ⟨1, 5, 1, [[By (bI b)]], 0⟩ :: Y j) [Tx p] (Bo g) (X (j + 1) :: ⟨1, 9, 1, [[Tx (restV b s j)]], 0⟩ :: ⟨1, 5, 1, [[By (bI b)]], 0⟩ :: Y (j + 1))) :
    SoundAt Try.prog 79 (X 0 :: ⟨1, 9, 1, [[Tx (restV b s 0)]], 0⟩ :: ⟨1, 5, 1, [[By (bI b)]], 0⟩ :: Y 0) [.v (.func (.yield l) #[] #[]), .ref 1 [] 1 0 0, .ref 2 [] 1 0 0] (.tup []) (X (j + 1) :: ⟨1, 9, 1, [[Tx (restV b s j)]], 0⟩ :: ⟨1, 5, 1, [[By (bI b)]], 0⟩ :: Y (j + 1)) := by
  refine SoundAt.of_wpA (fn := Try.f79) Try.func79 rfl ?_
  conv => whnf
  refine Loops.seq j (fun k => [.v (.func (.yield l) #[] #[]), .ref 1 [] 1 0 0, .ref 2 [] 1 0 0, .junk, .junk, .junk, .junk, .junk, .junk, .junk, .junk, .junk, .junk, .junk, .junk, .junk, .junk, .junk, .junk, .junk, .junk, .junk, .junk]) (fun k => X k :: ⟨1, 9, 1, [[Tx (restV b s k)]], 0⟩ :: ⟨1, 5, 1, [[By (bI b)]], 0⟩ :: Y k) (fun _ => True) ?_ trivial (fun k hk _ => ?_) (fun _ => ?_)
  · exact Weak.cov (by (conv => whnf); (repeat (refine ⟨rfl, ?_⟩; (conv => whnf))); exact trivial)
  · obtain ⟨h1, h2, h3⟩ := cut_at (b := b) (s := s) (k := k) (by omega)
    have h4 := rest_le b s k
    have h5 := head_lt h1
    conv => whnf
    refine ⟨_, _, (idx_sound (restV b s k) b).frame rfl _, ?_⟩
    rw [idx_some h1]
    conv => whnf
    refine ⟨fun h => absurd h (by simp), fun _ => ?_⟩
    (conv => whnf); (try (refine ⟨(rfl : (_ : Heap) = _), ?_⟩; (conv => whnf)))
    refine ⟨by omega, by omega, by simp; omega, ?_⟩
    rw [toNat_cast, List.drop_zero, head_take]
    conv => whnf
    refine ⟨_, _, hy k _ hk h2, ?_⟩
    (conv => whnf); (try (refine ⟨(rfl : (_ : Heap) = _), ?_⟩; (conv => whnf)))
    (repeat (first | (refine ⟨fun _ => ?_, fun h => absurd h (by decide)⟩; (conv => whnf); (try (refine ⟨(rfl : (_ : Heap) = _), ?_⟩; (conv => whnf)))) | (refine ⟨fun h => absurd h (by decide), fun _ => ?_⟩; (conv => whnf); (try (refine ⟨(rfl : (_ : Heap) = _), ?_⟩; (conv => whnf))))))
    rw [i64_nat (by omega), toNat_cast]
    refine ⟨by omega, ?_⟩
    conv => whnf
    refine ⟨by omega, by omega, ?_⟩
    rw [List.take_length, tail_drop]
    conv => whnf
    exact .inl ⟨rfl, Weak.cov (by (conv => whnf); (repeat (refine ⟨rfl, ?_⟩; (conv => whnf))); exact trivial), trivial⟩
  · have h4 := rest_le b s j
    by_cases hl : j + 1 = (cutV b s).length
    · obtain ⟨h1, h2⟩ := cut_last hl
      conv => whnf
      refine ⟨_, _, (idx_sound (restV b s j) b).frame rfl _, ?_⟩
      rw [idx_none h1]
      conv => whnf
      refine ⟨fun _ => ?_, fun h => absurd h (by simp)⟩
      (conv => whnf); (try (refine ⟨(rfl : (_ : Heap) = _), ?_⟩; (conv => whnf)))
      refine ⟨_, _, hz _ h2, ?_⟩
      conv => whnf
      refine ⟨fun _ => ?_, fun _ => ?_⟩ <;>
      · conv => whnf
        exact ⟨by simp, .inl rfl, _, .refl _, rfl, rfl⟩
    · obtain ⟨h1, h2, h3⟩ := cut_at (b := b) (s := s) (k := j) (by omega)
      have h5 := head_lt h1
      have hg : g = false := by rcases hend with h | h; exact h; exact absurd h hl
      subst hg
      conv => whnf
      refine ⟨_, _, (idx_sound (restV b s j) b).frame rfl _, ?_⟩
      rw [idx_some h1]
      conv => whnf
      refine ⟨fun h => absurd h (by simp), fun _ => ?_⟩
      (conv => whnf); (try (refine ⟨(rfl : (_ : Heap) = _), ?_⟩; (conv => whnf)))
      refine ⟨by omega, by omega, by simp; omega, ?_⟩
      rw [toNat_cast, List.drop_zero, head_take]
      conv => whnf
      refine ⟨_, _, hz _ h2, ?_⟩
      (conv => whnf); (try (refine ⟨(rfl : (_ : Heap) = _), ?_⟩; (conv => whnf)))
      (repeat (first | (refine ⟨fun _ => ?_, fun h => absurd h (by decide)⟩; (conv => whnf); (try (refine ⟨(rfl : (_ : Heap) = _), ?_⟩; (conv => whnf)))) | (refine ⟨fun h => absurd h (by decide), fun _ => ?_⟩; (conv => whnf); (try (refine ⟨(rfl : (_ : Heap) = _), ?_⟩; (conv => whnf))))))
      exact ⟨by simp, .inl rfl, _, .refl _, rfl, rfl⟩

end Go.Nam
