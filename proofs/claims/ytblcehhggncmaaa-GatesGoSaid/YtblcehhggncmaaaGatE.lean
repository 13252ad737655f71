/- Layer 17 (gates): the statement GatesEnds, walked. -/
import Derived.Test.YtblcehhggncmaaaGatD
namespace Go.Gat
open Go.Ab Go.Proofs Go.Hy
set_option linter.unusedVariables false
set_option maxRecDepth 8000

theorem ends_at {n : Str} {d c : Bool} {a : Int} (h : a ≠ 0) : closeV ⟨n, d, a, c⟩ = (⟨n, d, a, c⟩, false) := by simp [closeV, endsV, h]
theorem ends_now {n : Str} {c : Bool} : closeV ⟨n, true, 0, c⟩ = (⟨n, true, 0, true⟩, !c) := by simp [closeV, endsV]
theorem leave_at {n : Str} {d c : Bool} {a : Int} (h : 1 ≤ a) : leaveV ⟨n, d, a, c⟩ = (⟨n, d, a - 1, c⟩, 0) := by unfold leaveV; rw [if_neg (by simp; omega)]

theorem okD {n : Str} {d d2 c c2 : Bool} {a a2 : Int} (hl : Lis.ok ⟨n, d, a, c⟩) (h : i64 a2) : Lis.ok ⟨n, d2, a2, c2⟩ := ⟨hl.1, h⟩

theorem end_sound (n : Str) (d c : Bool) (a : Int) (hl : Lis.ok ⟨n, d, a, c⟩) : SoundAt Try.prog 14 [] [L4 n d a c] (Bo true) [] := by
  have ha := hl.2
  refine SoundAt.of_wpA1 (fn := Try.f14) Try.func14 rfl ?_
  conv => whnf
  refine ⟨fun h0 => ?_, fun h0 => ?_⟩
  · conv => whnf
    (repeat (first | (refine ⟨fun _ => ?_, fun h => absurd h (by decide)⟩; (conv => whnf); (try (refine ⟨(rfl : (_ : Heap) = _), ?_⟩; (conv => whnf)))) | (refine ⟨fun h => absurd h (by decide), fun _ => ?_⟩; (conv => whnf); (try (refine ⟨(rfl : (_ : Heap) = _), ?_⟩; (conv => whnf))))))
    refine ⟨_, _, (gone_sound).frame rfl _, ?_⟩; (conv => whnf); (try (refine ⟨(rfl : (_ : Heap) = _), ?_⟩; (conv => whnf)))
    (repeat (first | (refine ⟨fun _ => ?_, fun h => absurd h (by decide)⟩; (conv => whnf); (try (refine ⟨(rfl : (_ : Heap) = _), ?_⟩; (conv => whnf)))) | (refine ⟨fun h => absurd h (by decide), fun _ => ?_⟩; (conv => whnf); (try (refine ⟨(rfl : (_ : Heap) = _), ?_⟩; (conv => whnf))))))
    exact ⟨.inl rfl, _, .refl _, rfl⟩
  conv => whnf
  have hs : n.length ≤ 100 := by simp at h0; omega
  refine ⟨_, _, (is_sound ⟨n, d, a, c⟩ hl).frame rfl _, ?_⟩; (conv => whnf); (try (refine ⟨(rfl : (_ : Heap) = _), ?_⟩; (conv => whnf)))
  refine ⟨fun h1 => ?_, fun h1 => ?_⟩
  rotate_left 1
  · (conv => whnf); (try (refine ⟨(rfl : (_ : Heap) = _), ?_⟩; (conv => whnf)))
    (repeat (first | (refine ⟨fun _ => ?_, fun h => absurd h (by decide)⟩; (conv => whnf); (try (refine ⟨(rfl : (_ : Heap) = _), ?_⟩; (conv => whnf)))) | (refine ⟨fun h => absurd h (by decide), fun _ => ?_⟩; (conv => whnf); (try (refine ⟨(rfl : (_ : Heap) = _), ?_⟩; (conv => whnf))))))
    refine ⟨_, _, (gone_sound).frame rfl _, ?_⟩; (conv => whnf); (try (refine ⟨(rfl : (_ : Heap) = _), ?_⟩; (conv => whnf)))
    (repeat (first | (refine ⟨fun _ => ?_, fun h => absurd h (by decide)⟩; (conv => whnf); (try (refine ⟨(rfl : (_ : Heap) = _), ?_⟩; (conv => whnf)))) | (refine ⟨fun h => absurd h (by decide), fun _ => ?_⟩; (conv => whnf); (try (refine ⟨(rfl : (_ : Heap) = _), ?_⟩; (conv => whnf))))))
    exact ⟨.inl rfl, _, .refl _, rfl⟩
  (conv => whnf); (try (refine ⟨(rfl : (_ : Heap) = _), ?_⟩; (conv => whnf)))
  refine ⟨fun h2 => ?_, fun h2 => ?_⟩
  · (conv => whnf); (try (refine ⟨(rfl : (_ : Heap) = _), ?_⟩; (conv => whnf)))
    refine ⟨_, _, (gone_sound).frame rfl _, ?_⟩; (conv => whnf); (try (refine ⟨(rfl : (_ : Heap) = _), ?_⟩; (conv => whnf)))
    (repeat (first | (refine ⟨fun _ => ?_, fun h => absurd h (by decide)⟩; (conv => whnf); (try (refine ⟨(rfl : (_ : Heap) = _), ?_⟩; (conv => whnf)))) | (refine ⟨fun h => absurd h (by decide), fun _ => ?_⟩; (conv => whnf); (try (refine ⟨(rfl : (_ : Heap) = _), ?_⟩; (conv => whnf))))))
    exact ⟨.inl rfl, _, .refl _, rfl⟩
  (conv => whnf); (try (refine ⟨(rfl : (_ : Heap) = _), ?_⟩; (conv => whnf)))
  have h2' : a ≤ 1000 := by simpa using h2
  have h3 : 0 ≤ a := by simp [isV] at h1; omega
  refine ⟨_, _, (drainC).frame rfl _, ?_⟩; (conv => whnf); (try (refine ⟨(rfl : (_ : Heap) = _), ?_⟩; (conv => whnf)))
  refine Loops.seq a.toNat (fun k => [L4 n d a c, .ref 0 [] 4 0 0, Bo false, .ref 1 [] 4 0 0, I k, .junk, .junk, .junk, .junk, .junk, .junk, .junk, .junk, .junk, .junk, .junk, .junk, .junk, .junk, .junk, .junk, .junk, .junk, .junk, .junk, .junk, .junk, .junk, .junk, .junk, .junk, .junk, .junk, .junk, .junk, .junk, .junk, .junk, .junk, .junk, .junk, .junk, .junk, .junk, .junk, .junk, .junk, .junk, .junk, .junk, .junk, .junk, .junk, .junk, .junk, .junk, .junk, .junk, .junk, .junk, .junk, .junk, .junk, .junk, .junk, .junk, .junk, .junk, .junk, .junk, .junk, .junk, .junk, .junk, .junk, .junk, .junk, .junk]) (fun k => [⟨1, 46, 4, [[Tx n, Bo d, I a, Bo c]], 0⟩, ⟨1, 46, 4, [[Tx n, Bo true, I (a - k), Bo c]], 0⟩]) (fun _ => True) ?_ trivial (fun k hk _ => ?_) (fun _ => ?_)
  · have e : a - ((0 : Nat) : Int) = a := by simp
    rw [e]
    exact Weak.cov (by (conv => whnf); (repeat (refine ⟨rfl, ?_⟩; (conv => whnf))); exact trivial)
  · conv => whnf
    refine ⟨fun h => ?_, fun h => absurd h (by simp; omega)⟩
    conv => whnf
    refine ⟨_, _, (closeC (ends_at (by omega))).frame rfl _, ?_⟩; (conv => whnf); (try (refine ⟨(rfl : (_ : Heap) = _), ?_⟩; (conv => whnf)))
    (repeat (first | (refine ⟨fun _ => ?_, fun h => absurd h (by decide)⟩; (conv => whnf); (try (refine ⟨(rfl : (_ : Heap) = _), ?_⟩; (conv => whnf)))) | (refine ⟨fun h => absurd h (by decide), fun _ => ?_⟩; (conv => whnf); (try (refine ⟨(rfl : (_ : Heap) = _), ?_⟩; (conv => whnf))))))
    refine ⟨_, _, (leaveC (leave_at (by omega)) (okD hl ⟨by omega, by omega⟩)).frame rfl _, ?_⟩; (conv => whnf); (try (refine ⟨(rfl : (_ : Heap) = _), ?_⟩; (conv => whnf)))
    (repeat (first | (refine ⟨fun _ => ?_, fun h => absurd h (by decide)⟩; (conv => whnf); (try (refine ⟨(rfl : (_ : Heap) = _), ?_⟩; (conv => whnf)))) | (refine ⟨fun h => absurd h (by decide), fun _ => ?_⟩; (conv => whnf); (try (refine ⟨(rfl : (_ : Heap) = _), ?_⟩; (conv => whnf))))))
    refine .inl ⟨rfl, ?_, trivial⟩
    have e : a - (k : Int) - 1 = a - ((k + 1 : Nat) : Int) := by omega
    rw [i64_nat (by omega), e]
    exact Weak.covD 2 (by (conv => whnf); (repeat (refine ⟨rfl, ?_⟩; (conv => whnf))); exact trivial) rfl rfl rfl rfl rfl
  · have e : a - ((a.toNat : Nat) : Int) = 0 := by omega
    rw [e]
    conv => whnf
    refine ⟨fun h => absurd h (by simp; omega), fun h => ?_⟩
    conv => whnf
    refine ⟨by simp, ?_⟩
    conv => whnf
    cases c
    all_goals
      refine ⟨_, _, (closeC ends_now).frame rfl _, ?_⟩; (conv => whnf); (try (refine ⟨(rfl : (_ : Heap) = _), ?_⟩; (conv => whnf)))
      (repeat (first | (refine ⟨fun _ => ?_, fun h => absurd h (by decide)⟩; (conv => whnf); (try (refine ⟨(rfl : (_ : Heap) = _), ?_⟩; (conv => whnf)))) | (refine ⟨fun h => absurd h (by decide), fun _ => ?_⟩; (conv => whnf); (try (refine ⟨(rfl : (_ : Heap) = _), ?_⟩; (conv => whnf))))))
      refine ⟨_, _, (leaveC (n2 := []) (d2 := false) (a2 := 0) (c2 := false) (b := 5) rfl (okD hl ⟨by omega, by omega⟩)).frame rfl _, ?_⟩; (conv => whnf); (try (refine ⟨(rfl : (_ : Heap) = _), ?_⟩; (conv => whnf)))
      (repeat (first | (refine ⟨fun _ => ?_, fun h => absurd h (by decide)⟩; (conv => whnf); (try (refine ⟨(rfl : (_ : Heap) = _), ?_⟩; (conv => whnf)))) | (refine ⟨fun h => absurd h (by decide), fun _ => ?_⟩; (conv => whnf); (try (refine ⟨(rfl : (_ : Heap) = _), ?_⟩; (conv => whnf))))))
      refine ⟨_, _, (gone_sound).frame rfl _, ?_⟩; (conv => whnf); (try (refine ⟨(rfl : (_ : Heap) = _), ?_⟩; (conv => whnf)))
      (repeat (first | (refine ⟨fun _ => ?_, fun h => absurd h (by decide)⟩; (conv => whnf); (try (refine ⟨(rfl : (_ : Heap) = _), ?_⟩; (conv => whnf)))) | (refine ⟨fun h => absurd h (by decide), fun _ => ?_⟩; (conv => whnf); (try (refine ⟨(rfl : (_ : Heap) = _), ?_⟩; (conv => whnf))))))
      exact ⟨.inl rfl, _, .refl _, rfl⟩
end Go.Gat