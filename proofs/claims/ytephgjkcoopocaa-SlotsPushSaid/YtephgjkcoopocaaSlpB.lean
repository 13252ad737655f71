/- Layer 14 (slots): the chain of free slots, walked. -/
import Derived.Test.YtephgjkcoopocaaSlpA
import Derived.Test.YtephgjkcoopocaaTagB
import Derived.Test.YtephgjkcoopocaaAbN
import Derived.Test.YtephgjkcoopocaaProg
namespace Go.Slp
open Go.Ab Go.Proofs Go.Hy
set_option linter.unusedVariables false
set_option maxRecDepth 8000

theorem u64_lt {x : Int} (h : u64 x) : 0 ≤ x ∧ x < 18446744073709551616 := by unfold u64 at h; omega

theorem index_sound (x : Int) (h : u64 x) : SoundAt Try.prog 61 [] [U x] (I (x % 4294967296 - 1)) [] :=
  of_calls [] (fun w => (Ytephgjkcoopocaa.index_any x w (u64_lt h).1 (u64_lt h).2).mono fun e w' ⟨h1, h2⟩ => ⟨h1, h2.symm⟩) args1 fun E => .v _ rfl
theorem rindex_sound (x : Int) (h : u64 x) : SoundAt Try.prog 67 [] [U x] (I (x % 4294967296 - 1)) [] :=
  of_calls [] (fun w => (Ytephgjkcoopocaa.refIndex_any x w (u64_lt h).1 (u64_lt h).2).mono fun e w' ⟨h1, h2⟩ => ⟨h1, h2.symm⟩) args1 fun E => .v _ rfl

abbrev Ev (e : En) : C := .agg (encE e)

abbrev vk (e : En) (k : Nat) : List (List C) := (visV e.next (headI e) k).map encI

/-- **The iterator of free slots**, among what Free has. -/
theorem chain1_sound (e : En) (he : e.ok) (l : Nat) (rec rec' : Ob) (rr : C) (rn : Int)
    (hy : ∀ k, k < cntV e.next (headI e) → YieldS Try.prog l ([⟨1, 38, 3, [encE e], 0⟩, ⟨1, 36, 1, [[.lst 1 0 []]], 0⟩, ⟨1, 39, 1, [[I 0]], 0⟩, ⟨1, 36, 1, [[.gl 5 1 (vk e k)]], 0⟩, ⟨1, 38, 3, [encE e], 0⟩, ⟨4, 3, 1, (vk e k), 0⟩, rec] ++ [⟨2, 4, 1, (seenB e.next (headI e) (k + 1)).map encB, 0⟩]) [I (posV e.next (headI e) k)] (Bo true) ([⟨1, 38, 3, [encE e], 0⟩, ⟨1, 36, 1, [[.lst 1 0 []]], 0⟩, ⟨1, 39, 1, [[I 0]], 0⟩, ⟨1, 36, 1, [[.gl 5 1 (vk e (k + 1))]], 0⟩, ⟨1, 38, 3, [encE e], 0⟩, ⟨4, 3, 1, (vk e (k + 1)), 0⟩, rec] ++ [⟨2, 4, 1, (seenB e.next (headI e) (k + 1)).map encB, 0⟩]))
    (hz : ∃ b, YieldS Try.prog l ([⟨1, 38, 3, [encE e], 0⟩, ⟨1, 36, 1, [[.lst 1 0 []]], 0⟩, ⟨1, 39, 1, [[I 0]], 0⟩, ⟨1, 36, 1, [[.gl 5 1 (vk e (cntV e.next (headI e)))]], 0⟩, ⟨1, 38, 3, [encE e], 0⟩, ⟨4, 3, 1, (vk e (cntV e.next (headI e))), 0⟩, rec] ++ [⟨2, 4, 1, (seenB e.next (headI e) (cntV e.next (headI e))).map encB, 0⟩]) [I (if okV e.next (headI e) then -1 else -2)] (Bo b) ([⟨1, 38, 3, [encE e], 0⟩, ⟨1, 36, 1, [[rr]], 0⟩, ⟨1, 39, 1, [[I rn]], 0⟩, ⟨1, 36, 1, [[.gl 5 1 (vk e (cntV e.next (headI e)))]], 0⟩, ⟨1, 38, 3, [encE e], 0⟩, ⟨4, 3, 1, (vk e (cntV e.next (headI e))), 0⟩, rec'] ++ [⟨2, 4, 1, (seenB e.next (headI e) (cntV e.next (headI e))).map encB, 0⟩])) :
    SoundAt Try.prog 85 [⟨1, 38, 3, [encE e], 0⟩, ⟨1, 36, 1, [[.lst 1 0 []]], 0⟩, ⟨1, 39, 1, [[I 0]], 0⟩, ⟨1, 36, 1, [[.gl 5 1 (vk e 0)]], 0⟩, ⟨1, 38, 3, [encE e], 0⟩, ⟨4, 3, 1, (vk e 0), 0⟩, rec] [.v (.func (.yield l) #[] #[]), .ref 4 [] 3 0 0] (.tup []) ([⟨1, 38, 3, [encE e], 0⟩, ⟨1, 36, 1, [[rr]], 0⟩, ⟨1, 39, 1, [[I rn]], 0⟩, ⟨1, 36, 1, [[.gl 5 1 (vk e (cntV e.next (headI e)))]], 0⟩, ⟨1, 38, 3, [encE e], 0⟩, ⟨4, 3, 1, (vk e (cntV e.next (headI e))), 0⟩, rec'] ++ [⟨2, 4, 1, (seenB e.next (headI e) (cntV e.next (headI e))).map encB, 0⟩]) := by
  refine SoundAt.of_wpA (fn := Try.f85) Try.func85 rfl ?_
  conv => whnf
  have hl := he.2.1.2
  have hlm : (e.next.map encI).length = e.next.length := List.length_map ..
  obtain ⟨c1, c2, c3⟩ := cnt_spec e.next (headI e)
  have good : ∀ j, j < cntV e.next (headI e) → inB e.next (posV e.next (headI e) j) = true := fun j hj => by
    have := c3 j hj
    simp only [stopB, Bool.or_eq_false_iff, Bool.not_eq_false'] at this
    exact this.1
  refine ⟨rfl, by omega, by show (1 : Int) * _ ≤ _; omega, by omega, ?_⟩
  conv => whnf
  refine ⟨_, _, (index_sound e.head he.1).frame rfl _, ?_⟩; (conv => whnf); (try (refine ⟨(rfl : (_ : Heap) = _), ?_⟩; (conv => whnf)))
  refine Loops.seq (cntV e.next (headI e)) (fun k => [.v (.func (.yield l) #[] #[]), .ref 4 [] 3 0 0, .junk, .sl 7 [] 1 0 e.next.length false, I (posV e.next (headI e) k), .junk, .junk, .junk, .junk, .junk, .junk, .junk, .junk, .junk, .junk, .junk, .junk, .junk, .junk, .junk, .junk, .junk, .junk, .junk, .junk, .junk, .junk, .junk, .junk, .junk, .junk, .junk, .junk, .junk, .junk, .junk, .junk, .junk, .junk, .junk, .junk, .junk, .junk, .junk])
    (fun k => [⟨1, 38, 3, [encE e], 0⟩, ⟨1, 36, 1, [[.lst 1 0 []]], 0⟩, ⟨1, 39, 1, [[I 0]], 0⟩, ⟨1, 36, 1, [[.gl 5 1 (vk e k)]], 0⟩, ⟨1, 38, 3, [encE e], 0⟩, ⟨4, 3, 1, (vk e k), 0⟩, rec] ++ [⟨2, 4, 1, (seenB e.next (headI e) k).map encB, 0⟩]) (fun _ => True) ?_ trivial (fun k hk _ => ?_) (fun _ => ?_)
  · have e1 : List.replicate (((e.next.map encI).length : Int)).toNat (List.map ofV (Value.bool false).cells.toList) = (seenB e.next (headI e) 0).map encB := by
      simp [seenB, encB, ofV, Value.cells]
    rw [e1, hlm, toNat_cast]
    exact Weak.cov (by (conv => whnf); (repeat (refine ⟨rfl, ?_⟩; (conv => whnf))); exact trivial)
  · have g := good k hk
    simp only [inB, Bool.and_eq_true, decide_eq_true_eq] at g
    obtain ⟨g1, g2⟩ := g
    have hs := seen_at (nx := e.next) (i0 := headI e) (k := k) (fun j hj => good j (by omega)) (i := (posV e.next (headI e) k).toNat) (by omega)
    have hv : (visV e.next (headI e) k).contains (((posV e.next (headI e) k).toNat : Nat) : Int) = false := by
      have := c3 k hk
      simp only [stopB, Bool.or_eq_false_iff, Bool.not_eq_false'] at this
      rw [Int.toNat_of_nonneg g1]
      exact this.2
    rw [hv] at hs
    have hyk := hy k hk
    have hnx : (e.next)[(posV e.next (headI e) k).toNat]? = some (posV e.next (headI e) (k + 1)) := by
      show _ = some (nxt e.next (posV e.next (headI e) k))
      unfold nxt
      rw [List.getElem?_eq_getElem (by omega)]
      rfl
    have hse : (seenB e.next (headI e) (k + 1)).map encB = ((seenB e.next (headI e) k).map encB).set (posV e.next (headI e) k).toNat [Bo true] := by
      show (List.set _ _ _).map encB = _
      rw [List.map_set]; rfl
    rw [hse] at hyk
    rw [hse]
    generalize hP : posV e.next (headI e) k = p at *
    generalize hQ : posV e.next (headI e) (k + 1) = p' at *
    conv => whnf
    refine ⟨fun _ => ?_, fun h => absurd h (by simp; omega)⟩
    (conv => whnf); (try (refine ⟨(rfl : (_ : Heap) = _), ?_⟩; (conv => whnf)))
    refine ⟨fun h => absurd h (by simp; omega), fun _ => ?_⟩
    (conv => whnf); (try (refine ⟨(rfl : (_ : Heap) = _), ?_⟩; (conv => whnf)))
    refine ⟨fun h => absurd h (by simp; omega), fun _ => ?_⟩
    (conv => whnf); (try (refine ⟨(rfl : (_ : Heap) = _), ?_⟩; (conv => whnf)))
    refine ⟨g1, by omega, ?_⟩
    conv => whnf
    refine ⟨[Bo false], by rw [Nat.zero_add, List.getElem?_map, hs]; rfl, Nat.le_refl _, ?_⟩
    (conv => whnf); (try (refine ⟨(rfl : (_ : Heap) = _), ?_⟩; (conv => whnf)))
    (repeat (first | (refine ⟨fun _ => ?_, fun h => absurd h (by decide)⟩; (conv => whnf); (try (refine ⟨(rfl : (_ : Heap) = _), ?_⟩; (conv => whnf)))) | (refine ⟨fun h => absurd h (by decide), fun _ => ?_⟩; (conv => whnf); (try (refine ⟨(rfl : (_ : Heap) = _), ?_⟩; (conv => whnf))))))
    refine ⟨g1, by omega, ?_⟩
    conv => whnf
    refine ⟨[Bo false], by rw [Nat.zero_add, List.getElem?_map, hs]; rfl, rfl, ?_⟩
    conv => whnf
    rw [Nat.zero_add]
    refine ⟨_, _, hyk, ?_⟩
    (conv => whnf); (try (refine ⟨(rfl : (_ : Heap) = _), ?_⟩; (conv => whnf)))
    (repeat (first | (refine ⟨fun _ => ?_, fun h => absurd h (by decide)⟩; (conv => whnf); (try (refine ⟨(rfl : (_ : Heap) = _), ?_⟩; (conv => whnf)))) | (refine ⟨fun h => absurd h (by decide), fun _ => ?_⟩; (conv => whnf); (try (refine ⟨(rfl : (_ : Heap) = _), ?_⟩; (conv => whnf))))))
    refine ⟨g1, [I p'], by rw [List.getElem?_map, hnx]; rfl, ?_⟩
    conv => whnf
    exact .inl ⟨rfl, Weak.cov (by (conv => whnf); (repeat (refine ⟨rfl, ?_⟩; (conv => whnf))); exact trivial), trivial⟩
  · generalize hN : cntV e.next (headI e) = N at *
    have hsN : ∀ {i : Nat}, i < e.next.length → (seenB e.next (headI e) N)[i]? = some ((visV e.next (headI e) N).contains (i : Int)) := fun h => seen_at (nx := e.next) (i0 := headI e) (k := N) (fun j hj => good j hj) h
    obtain ⟨b, hz⟩ := hz
    by_cases hok : okV e.next (headI e) = true
    · have hp : posV e.next (headI e) N = -1 := by simpa [okV, hN] using hok
      rw [if_pos hok] at hz
      rw [hp]
      conv => whnf
      refine ⟨fun h => absurd h (by simp), fun _ => ?_⟩
      conv => whnf
      refine ⟨by simp, ?_⟩
      conv => whnf
      refine ⟨_, _, hz, ?_⟩
      conv => whnf
      refine ⟨fun _ => ?_, fun _ => ?_⟩ <;>
      · conv => whnf
        exact ⟨.inr rfl, _, .refl _, rfl, rfl⟩
    · have hp : posV e.next (headI e) N ≠ -1 := by intro h; exact hok (by simp [okV, hN, h])
      rw [if_neg hok] at hz
      generalize hP : posV e.next (headI e) N = p at *
      conv => whnf
      refine ⟨fun _ => ?_, fun h => absurd h (by simp; exact hp)⟩
      (conv => whnf); (try (refine ⟨(rfl : (_ : Heap) = _), ?_⟩; (conv => whnf)))
      have fin : ∀ (X : Prop), X → X := fun _ h => h
      refine ⟨fun h1 => ?_, fun h1 => ?_⟩
      · (conv => whnf); (try (refine ⟨(rfl : (_ : Heap) = _), ?_⟩; (conv => whnf)))
        refine ⟨by simp, ?_⟩
        conv => whnf
        refine ⟨_, _, hz, ?_⟩
        conv => whnf
        refine ⟨fun _ => ?_, fun _ => ?_⟩ <;>
        · conv => whnf
          exact ⟨.inr rfl, _, .refl _, rfl, rfl⟩
      · (conv => whnf); (try (refine ⟨(rfl : (_ : Heap) = _), ?_⟩; (conv => whnf)))
        refine ⟨fun h2 => ?_, fun h2 => ?_⟩
        · (conv => whnf); (try (refine ⟨(rfl : (_ : Heap) = _), ?_⟩; (conv => whnf)))
          refine ⟨by simp, ?_⟩
          conv => whnf
          refine ⟨_, _, hz, ?_⟩
          conv => whnf
          refine ⟨fun _ => ?_, fun _ => ?_⟩ <;>
          · conv => whnf
            exact ⟨.inr rfl, _, .refl _, rfl, rfl⟩
        · have g1 : 0 ≤ p := by simpa using h1
          have g2 : p < e.next.length := by simp at h2; omega
          have hv : (visV e.next (headI e) N).contains (((p.toNat : Nat)) : Int) = true := by
            simp only [stopB, hP, Bool.or_eq_true, Bool.not_eq_true', inB, Bool.and_eq_false_iff, decide_eq_false_iff_not] at c2
            rw [Int.toNat_of_nonneg g1]
            rcases c2 with (h | h) | h
            · exact absurd g1 h
            · exact absurd g2 h
            · exact h
          have hs := hsN (i := p.toNat) (by omega)
          rw [hv] at hs
          (conv => whnf); (try (refine ⟨(rfl : (_ : Heap) = _), ?_⟩; (conv => whnf)))
          refine ⟨g1, by omega, ?_⟩
          conv => whnf
          refine ⟨[Bo true], by rw [Nat.zero_add, List.getElem?_map, hs]; rfl, Nat.le_refl _, ?_⟩
          (conv => whnf); (try (refine ⟨(rfl : (_ : Heap) = _), ?_⟩; (conv => whnf)))
          (repeat (first | (refine ⟨fun _ => ?_, fun h => absurd h (by decide)⟩; (conv => whnf); (try (refine ⟨(rfl : (_ : Heap) = _), ?_⟩; (conv => whnf)))) | (refine ⟨fun h => absurd h (by decide), fun _ => ?_⟩; (conv => whnf); (try (refine ⟨(rfl : (_ : Heap) = _), ?_⟩; (conv => whnf))))))
          refine ⟨by simp, ?_⟩
          conv => whnf
          refine ⟨_, _, hz, ?_⟩
          conv => whnf
          refine ⟨fun _ => ?_, fun _ => ?_⟩ <;>
          · conv => whnf
            exact ⟨.inr rfl, _, .refl _, rfl, rfl⟩

end Go.Slp
