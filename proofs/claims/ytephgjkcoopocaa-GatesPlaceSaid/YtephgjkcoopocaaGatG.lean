/- Layer 17 (gates): the statement GatesPlace, walked. -/
import Derived.Test.YtephgjkcoopocaaGatD
namespace Go.Gat
open Go.Ab Go.Proofs Go.Hy
set_option linter.unusedVariables false
set_option maxRecDepth 8000

theorem placeL_sound (l : List Lis) (s : Str) (hl : l.length < 4611686018427387904) : SoundAt Try.prog 3 [] [lL l, Tx s] (Bo true) [] := by
  refine SoundAt.of_wpA1 (fn := Try.f3) Try.func3 rfl ?_
  conv => whnf
  refine ⟨fun h0 => ?_, fun h0 => ?_⟩
  · conv => whnf
    (repeat (first | (refine ⟨fun _ => ?_, fun h => absurd h (by decide)⟩; (conv => whnf); (try (refine ⟨(rfl : (_ : Heap) = _), ?_⟩; (conv => whnf)))) | (refine ⟨fun h => absurd h (by decide), fun _ => ?_⟩; (conv => whnf); (try (refine ⟨(rfl : (_ : Heap) = _), ?_⟩; (conv => whnf))))))
    exact ⟨.inl rfl, _, .refl _, rfl⟩
  conv => whnf
  have h100 : l.length ≤ 100 := by simp at h0; omega
  refine ⟨_, _, (place_sound l s hl).frame rfl _, ?_⟩; (conv => whnf); (try (refine ⟨(rfl : (_ : Heap) = _), ?_⟩; (conv => whnf)))
  refine Loops.seq l.length (fun k => [lL l, Tx s, .junk, .junk, Bo false, I (placeV l s), I k, .junk, .junk, .junk, .junk, .junk, .junk, .junk, .junk, .junk, .junk, .junk, .junk, .junk, .junk, .junk, .junk, .junk, .junk, .junk, .junk, .junk, .junk, .junk, .junk, .junk, .junk, .junk, .junk, .junk, .junk]) (fun k => []) (fun k => ∀ j, (h : j < l.length) → j < k → (l[j].name == s) = false) ?_ (by simp) (fun k hk hr => ?_) (fun hr => ?_)
  · exact Weak.cov (by (conv => whnf); (repeat (refine ⟨rfl, ?_⟩; (conv => whnf))); exact trivial)
  · conv => whnf
    refine ⟨fun h => ?_, fun h => absurd h (by simp; omega)⟩
    conv => whnf
    refine ⟨by omega, encL l[k], by simp [hk], ?_⟩
    conv => whnf
    refine ⟨fun h1 => ?_, fun h1 => ?_⟩
    · have e : placeV l s = k := by
        have : l.findIdx? (fun r => r.name == s) = some k := by
          rw [List.findIdx?_eq_some_iff_getElem]
          exact ⟨hk, h1, fun j hj => by simpa using hr j (by omega) hj⟩
        unfold placeV; rw [this]
      rw [e]
      conv => whnf
      refine ⟨_, _, (gone_sound).frame rfl _, ?_⟩; (conv => whnf); (try (refine ⟨(rfl : (_ : Heap) = _), ?_⟩; (conv => whnf)))
      (repeat (first | (refine ⟨fun _ => ?_, fun h => absurd h (by decide)⟩; (conv => whnf); (try (refine ⟨(rfl : (_ : Heap) = _), ?_⟩; (conv => whnf)))) | (refine ⟨fun h => absurd h (by decide), fun _ => ?_⟩; (conv => whnf); (try (refine ⟨(rfl : (_ : Heap) = _), ?_⟩; (conv => whnf))))))
      refine ⟨fun _ => ?_, fun h => absurd h (by simp)⟩; (conv => whnf); (try (refine ⟨(rfl : (_ : Heap) = _), ?_⟩; (conv => whnf)))
      conv => whnf
      refine .inr ⟨by simp, ?_⟩
      conv => whnf
      exact ⟨.inl rfl, _, .refl _, rfl⟩
    · conv => whnf
      refine .inl ⟨rfl, ?_, ?_⟩
      · rw [i64_nat (by omega)]
        exact Weak.covD 0 (by (conv => whnf); (repeat (refine ⟨rfl, ?_⟩; (conv => whnf))); exact trivial) rfl rfl rfl rfl rfl
      · intro j hj hjk
        by_cases e : j = k
        · subst e; exact h1
        · exact hr j hj (by omega)
  · conv => whnf
    refine ⟨fun h => absurd h (by simp), fun h => ?_⟩
    conv => whnf
    refine ⟨by simp, ?_⟩
    have e : placeV l s = -1 := by
      have : l.findIdx? (fun r => r.name == s) = none := by
        rw [List.findIdx?_eq_none_iff]
        intro x hx
        obtain ⟨j, hj, rfl⟩ := List.mem_iff_getElem.1 hx
        exact hr j hj hj
      unfold placeV; rw [this]
    rw [e]
    conv => whnf
    refine ⟨_, _, (gone_sound).frame rfl _, ?_⟩; (conv => whnf); (try (refine ⟨(rfl : (_ : Heap) = _), ?_⟩; (conv => whnf)))
    (repeat (first | (refine ⟨fun _ => ?_, fun h => absurd h (by decide)⟩; (conv => whnf); (try (refine ⟨(rfl : (_ : Heap) = _), ?_⟩; (conv => whnf)))) | (refine ⟨fun h => absurd h (by decide), fun _ => ?_⟩; (conv => whnf); (try (refine ⟨(rfl : (_ : Heap) = _), ?_⟩; (conv => whnf))))))
    exact ⟨.inl rfl, _, .refl _, rfl⟩

end Go.Gat
