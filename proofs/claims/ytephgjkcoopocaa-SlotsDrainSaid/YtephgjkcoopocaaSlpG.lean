/- Layer 14 (slots): a fresh endpoint, in the program and in the reference, walked. -/
import Derived.Test.YtephgjkcoopocaaSlpF
namespace Go.Slp
open Go.Ab Go.Proofs Go.Hy
set_option linter.unusedVariables false
set_option maxRecDepth 8000

theorem make_sound : SoundAt Try.prog 69 [] [.v (.int .u32 0), I 0] (.tup [U 1, I 0]) [] :=
  of_calls [] (fun w => (Ytephgjkcoopocaa.make_yes 0 0 w (by decide) (by decide) (by decide) (by decide)).mono fun e w' ⟨h1, h2⟩ => ⟨h1, h2.symm⟩) args2 fun E => .tup _ _ rfl fun j c y e1 e2 => by
    match j, e1, e2 with
    | 0, e1, e2 => cases e1; cases e2; exact .v _ rfl
    | 1, e1, e2 => cases e1; cases e2; exact .v _ rfl

def rowK (n k : Nat) : List Int := (List.range n).map fun i => if i < k then (i : Int) + 1 else 0
def freshL (n : Nat) : List Int := (List.range n).map fun (i : Nat) => if i + 1 = n then -1 else (i : Int) + 1
theorem rowK_len (n k : Nat) : (rowK n k).length = n := by simp [rowK]
theorem rowK_succ {n k : Nat} (h : k < n) : (rowK n k).set k ((k : Int) + 1) = rowK n (k + 1) := by
  apply List.ext_getElem?
  intro j
  rw [List.getElem?_set, rowK_len]
  unfold rowK
  simp only [List.getElem?_map]
  by_cases hj : j < n
  · rw [List.getElem?_range hj]
    by_cases e : k = j
    · subst e; simp [h]
    · simp only [e, if_false, Option.map_some]
      by_cases h2 : j < k
      · simp [h2, show j < k + 1 from by omega]
      · simp [h2, show ¬ j < k + 1 from by omega]
  · rw [List.getElem?_eq_none (by simp; omega)]
    simp
    omega
theorem rowK_end {n : Nat} : (rowK n n).set (n - 1) (-1) = freshL n := by
  apply List.ext_getElem?
  intro j
  rw [List.getElem?_set, rowK_len]
  unfold rowK freshL
  simp only [List.getElem?_map]
  by_cases hj : j < n
  · rw [List.getElem?_range hj]
    by_cases e : n - 1 = j
    · subst e; simp [show n - 1 < n from by omega, show n - 1 + 1 = n from by omega]
    · simp only [e, if_false, Option.map_some, hj, if_true, show ¬ j + 1 = n from by omega]
  · rw [List.getElem?_eq_none (by simp; omega)]
    simp
    omega
theorem fresh_eq {n : Int} (h1 : ¬ (n < 1 ∨ 4 < n)) : freshV n = (⟨1, freshL n.toNat, 0⟩, 0) := by unfold freshV; rw [if_neg h1]; rfl

theorem fresh_sound (n : Int) : SoundAt Try.prog 40 [] [I n] (tQ (freshV n)) [] := by
  refine SoundAt.of_wpA1 (fn := Try.f40) Try.func40 rfl ?_
  conv => whnf
  have hbad : n < 1 ∨ 4 < n → freshV n = (no, 1) := fun h => by unfold freshV; rw [if_pos h]
  refine ⟨fun h1 => ?_, fun h1 => ?_⟩
  · rw [hbad (.inl (by simpa using h1))]
    (conv => whnf); (try (refine ⟨(rfl : (_ : Heap) = _), ?_⟩; (conv => whnf)))
    exact ⟨.inl rfl, _, Weak.var 0 rfl rfl rfl (.cons (.refl _) (.cons (WC.nil 0 1) (.cons (.refl _) .nil))), rfl⟩
  · (conv => whnf); (try (refine ⟨(rfl : (_ : Heap) = _), ?_⟩; (conv => whnf)))
    refine ⟨fun h2 => ?_, fun h2 => ?_⟩
    · rw [hbad (.inr (by simpa using h2))]
      (conv => whnf); (try (refine ⟨(rfl : (_ : Heap) = _), ?_⟩; (conv => whnf)))
      exact ⟨.inl rfl, _, Weak.var 0 rfl rfl rfl (.cons (.refl _) (.cons (WC.nil 0 1) (.cons (.refl _) .nil))), rfl⟩
    · have g1 : 1 ≤ n := by simp at h1; omega
      have g2 : n ≤ 4 := by simp at h2; omega
      rw [fresh_eq (by omega)]
      obtain ⟨m, rfl⟩ : ∃ m : Nat, n = m := ⟨n.toNat, by omega⟩
      rw [toNat_cast]
      (conv => whnf); (try (refine ⟨(rfl : (_ : Heap) = _), ?_⟩; (conv => whnf)))
      refine ⟨rfl, by omega, by show (8 : Int) * _ ≤ _; omega, by omega, ?_⟩
      (conv => whnf); (try (refine ⟨(rfl : (_ : Heap) = _), ?_⟩; (conv => whnf)))
      refine Loops.seq m (fun k => [I m, .junk, .ref 0 [] 3 0 0, I 0, .ref 2 [] 3 0 0, .junk, .junk, .junk, .junk, .junk, .junk, .junk, .junk, .junk, .junk, .junk, .junk, .junk, I m, I k, .junk, .junk, .junk, .junk, .junk, .junk, .junk, .junk, .junk, .junk, .junk, .junk, .junk, .junk, .junk, .junk, .junk, .junk, .junk, .junk]) (fun k => [⟨1, 38, 3, [[U 0, .lst 1 0 [], I 0]], 0⟩, ⟨2, 3, 1, (rowK m k).map encI, 0⟩, ⟨1, 38, 3, [[U 0, .sl 1 [] 1 0 m false, I 0]], 0⟩]) (fun _ => True) ?_ trivial (fun k hk _ => ?_) (fun _ => ?_)
      · have e1 : List.replicate ((m : Int)).toNat [C.v (Value.int .i64 0)] = (rowK m 0).map encI := by
          simp only [toNat_cast]
          apply List.ext_getElem?
          intro j
          rw [List.getElem?_replicate, List.getElem?_map]
          unfold rowK
          simp only [List.getElem?_map]
          split
          · rename_i hj; rw [List.getElem?_range hj]; rfl
          · rw [List.getElem?_eq_none (by simp; omega)]; rfl
        show Weak 0 ⟨_, [_, ⟨2, 3, 1, List.replicate ((m : Int)).toNat [C.v (Value.int .i64 0)], 0⟩, _]⟩ _
        rw [e1]
        exact Weak.cov (by (conv => whnf); (repeat (refine ⟨rfl, ?_⟩; (conv => whnf))); exact trivial)
      · have hg : ((rowK m k).map encI)[k]? = some (encI ((rowK m k)[k]'(by rw [rowK_len]; exact hk))) := by rw [List.getElem?_map, List.getElem?_eq_getElem (by rw [rowK_len]; exact hk)]; rfl
        have hse : ((rowK m k).map encI).set k [I ((k + 1 : Nat) : Int)] = (rowK m (k + 1)).map encI := by rw [← rowK_succ hk, List.map_set]; rfl
        conv => whnf
        refine ⟨fun _ => ?_, fun h => absurd h (by simp; omega)⟩
        conv => whnf
        refine ⟨by omega, by simp; omega, ?_⟩
        (conv => whnf); (try (refine ⟨(rfl : (_ : Heap) = _), ?_⟩; (conv => whnf)))
        rw [Nat.zero_add, i64_nat (by omega), toNat_cast]
        refine ⟨_, hg, rfl, ?_⟩
        (conv => whnf); (try (refine ⟨(rfl : (_ : Heap) = _), ?_⟩; (conv => whnf)))
        rw [show List.set (List.map encI (rowK m k)) k [C.v (Value.int IntKind.i64 ((k + 1 : Nat) : Int))] = (rowK m (k + 1)).map encI from hse]
        refine .inl ⟨rfl, ?_, trivial⟩
        rw [i64_nat (by omega)]
        exact Weak.covD 3 (by (conv => whnf); (repeat (refine ⟨rfl, ?_⟩; (conv => whnf))); exact trivial) rfl rfl rfl rfl rfl
      · have hg : ((rowK m m).map encI)[m - 1]? = some (encI ((rowK m m)[m - 1]'(by rw [rowK_len]; omega))) := by rw [List.getElem?_map, List.getElem?_eq_getElem (by rw [rowK_len]; omega)]; rfl
        have hse : ((rowK m m).map encI).set (m - 1) [I (-1)] = (freshL m).map encI := by rw [← rowK_end, List.map_set]; rfl
        have hw : IntKind.i64.wrap ((m : Int) - 1) = ((m - 1 : Nat) : Int) := by rw [i64_ok (by omega) (by omega)]; omega
        have hfl : (freshL m).length = m := by simp [freshL]
        conv => whnf
        refine ⟨fun h => absurd h (by simp), fun _ => ?_⟩
        conv => whnf
        refine ⟨by simp, ?_⟩
        conv => whnf
        rw [hw]
        refine ⟨by omega, by simp; omega, ?_⟩
        (conv => whnf); (try (refine ⟨(rfl : (_ : Heap) = _), ?_⟩; (conv => whnf)))
        rw [Nat.zero_add, toNat_cast]
        refine ⟨_, hg, rfl, ?_⟩
        (conv => whnf); (try (refine ⟨(rfl : (_ : Heap) = _), ?_⟩; (conv => whnf)))
        rw [show List.set (List.map encI (rowK m m)) (m - 1) [C.v (Value.int IntKind.i64 (-1))] = (freshL m).map encI from hse]
        refine ⟨_, _, (make_sound).frame rfl _, ?_⟩; (conv => whnf); (try (refine ⟨(rfl : (_ : Heap) = _), ?_⟩; (conv => whnf)))
        exact ⟨.inl rfl, _, Weak.freezeH 0 1 rfl rfl rfl (by simp [hfl]) (fun r hr c hc => by
          obtain ⟨n, _, rfl⟩ := List.mem_map.1 hr
          simp [encI] at hc
          subst hc; rfl) rfl rfl, rfl⟩

def rowR (k : Nat) : List Int := (List.range k).map fun (i : Nat) => (i : Int) + 1
theorem rowR_succ (k : Nat) : rowR (k + 1) = rowR k ++ [((k + 1 : Nat) : Int)] := by simp [rowR, List.range_succ]
theorem fresh_rowR {m : Nat} (h : 1 ≤ m) : freshL m = rowR (m - 1) ++ [-1] := by
  obtain ⟨k, rfl⟩ : ∃ k, m = k + 1 := ⟨m - 1, by omega⟩
  unfold freshL rowR
  rw [List.range_succ, List.map_append]
  congr 1
  · apply List.map_congr_left
    intro i hi
    have := List.mem_range.1 hi
    rw [if_neg (by omega)]
  · simp

theorem rfresh_sound (n : Int) : SoundAt Try.prog 41 [] [I n] (tQ (freshV n)) [] := by
  refine SoundAt.of_wpA1 (fn := Try.f41) Try.func41 rfl ?_
  conv => whnf
  have hbad : n < 1 ∨ 4 < n → freshV n = (no, 1) := fun h => by unfold freshV; rw [if_pos h]
  refine ⟨fun h1 => ?_, fun h1 => ?_⟩
  · rw [hbad (.inl (by simpa using h1))]
    (conv => whnf); (try (refine ⟨(rfl : (_ : Heap) = _), ?_⟩; (conv => whnf)))
    exact ⟨.inl rfl, _, Weak.var 0 rfl rfl rfl (.cons (.refl _) (.cons (WC.nil 0 1) (.cons (.refl _) .nil))), rfl⟩
  · (conv => whnf); (try (refine ⟨(rfl : (_ : Heap) = _), ?_⟩; (conv => whnf)))
    refine ⟨fun h2 => ?_, fun h2 => ?_⟩
    · rw [hbad (.inr (by simpa using h2))]
      (conv => whnf); (try (refine ⟨(rfl : (_ : Heap) = _), ?_⟩; (conv => whnf)))
      exact ⟨.inl rfl, _, Weak.var 0 rfl rfl rfl (.cons (.refl _) (.cons (WC.nil 0 1) (.cons (.refl _) .nil))), rfl⟩
    · have g1 : 1 ≤ n := by simp at h1; omega
      have g2 : n ≤ 4 := by simp at h2; omega
      rw [fresh_eq (by omega)]
      obtain ⟨m, rfl⟩ : ∃ m : Nat, n = m := ⟨n.toNat, by omega⟩
      rw [toNat_cast]
      have hl : ∀ k, ((rowR k).map encI).length = k := fun k => by simp [rowR]
      (conv => whnf); (try (refine ⟨(rfl : (_ : Heap) = _), ?_⟩; (conv => whnf)))
      refine Loops.seq (m - 1) (fun k => [I m, .junk, .ref 0 [] 3 0 0, I 0, .ref 1 [] 3 0 0, I ((k + 1 : Nat) : Int), .junk, .junk, .junk, .junk, .junk, .junk, .junk, .junk, .junk, .junk, .junk, .junk, .junk, .junk, .junk, .junk, .junk, .junk, .junk, .junk, .junk, .junk, .junk, .junk, .junk]) (fun k => [⟨1, 38, 3, [[U 0, .lst 1 0 [], I 0]], 0⟩, ⟨1, 38, 3, [[U 1, .gl 2 1 (((rowR k).map encI)), I 0]], 0⟩, ⟨4, 3, 1, ((rowR k).map encI), 0⟩]) (fun _ => True) ?_ trivial (fun k hk _ => ?_) (fun _ => ?_)
      · exact (Weak.growH 1 1 3 1 rfl rfl (.inl rfl) rfl rfl).trans (Weak.cov (by (conv => whnf); (repeat (refine ⟨rfl, ?_⟩; (conv => whnf))); exact trivial))
      · have hlk := hl k
        conv => whnf
        refine ⟨fun _ => ?_, fun h => absurd h (by simp; omega)⟩
        conv => whnf
        refine ⟨rfl, .inr rfl, by simp [maxLen, hlk]; omega, by show _ * 8 ≤ _; simp [hlk]; omega, ?_⟩
        conv => whnf
        refine .inl ⟨rfl, ?_, trivial⟩
        have e : (rowR (k + 1)).map encI = (rowR k).map encI ++ [[I ((k + 1 : Nat) : Int)]] := by rw [rowR_succ, List.map_append]; rfl
        rw [i64_nat (by omega), e]
        exact Weak.covD 3 (by (conv => whnf); (repeat (refine ⟨rfl, ?_⟩; (conv => whnf))); exact trivial) rfl rfl rfl rfl rfl
      · have hlk := hl (m - 1)
        conv => whnf
        refine ⟨fun h => absurd h (by simp; omega), fun _ => ?_⟩
        conv => whnf
        refine ⟨by simp, ?_⟩
        conv => whnf
        refine ⟨rfl, .inr rfl, by simp [maxLen, hlk]; omega, by show _ * 8 ≤ _; simp [hlk]; omega, ?_⟩
        conv => whnf
        have e : (freshL m).map encI = (rowR (m - 1)).map encI ++ [[I (-1)]] := by rw [fresh_rowR (by omega), List.map_append]; rfl
        exact ⟨.inl rfl, _, .refl _, congrArg (fun x => some (C.tup [.agg [U 1, .lst 0 1 x, I 0], I 0])) e.symm⟩

end Go.Slp
