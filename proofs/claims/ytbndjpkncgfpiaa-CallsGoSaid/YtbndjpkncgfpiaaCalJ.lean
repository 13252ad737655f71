/- Layer 10 (calls): the order of two calls, walked. -/
import Derived.Test.YtbndjpkncgfpiaaCalI
namespace Go.Ab
section
variable {P : Program} {B : Nat}
/-- A loop of so many rounds at most, one by one. -/
structure LoopN (P : Program) (B : Nat) (c : Code) (n : Nat) (t : List C) (H : Heap) (K : Exit → List C → Heap → Prop) : Prop where
  out : RunL P B c n ⟨t, H⟩ fun ex s => K ex s.tmps s.H
theorem LoopN.step {c : Code} {n : Nat} {t : List C} {H : Heap} {K : Exit → List C → Heap → Prop}
    (h : wpA P B c t H fun e t1 H1 => (e = .normal ∧ LoopN P B c n t1 H1 K) ∨ (e ≠ .normal ∧ K e t1 H1)) : LoopN P B c (n + 1) t H K := by
  refine ⟨.step ((wpA_spec h).post fun ex s1 h1 => ?_)⟩
  rcases h1 with ⟨rfl, h⟩ | ⟨hne, hK⟩
  · exact ⟨s1, .refl s1, h.out⟩
  · refine ⟨s1, .refl s1, ?_⟩
    cases ex with
    | normal => exact absurd rfl hne
    | _ => exact hK
theorem LoopK.ofN {c : Code} (n : Nat) {t : List C} {H : Heap} {K : Exit → List C → Heap → Prop} (h : LoopN P B c n t H K) : LoopK P B c t H K := ⟨⟨n, h.out⟩⟩
end
end Go.Ab
namespace Go.Cal
open Go.Ab Go.Proofs Go.Hy
set_option linter.unusedVariables false
set_option maxRecDepth 100000


theorem cmp10_sound (X1 X2 X3 X4 : Ob) : SoundAt Try.prog 36 [⟨1, 22, 1, [[lCal [cA, cB]]], 0⟩, X1, X2, X3, X4] [I 1, I 0, .ref 0 [] 1 0 0] (I (-1)) [⟨1, 22, 1, [[lCal [cA, cB]]], 0⟩, X1, X2, X3, X4] := by
  refine SoundAt.of_wpA (fn := Try.f36) Try.func36 rfl ?_
  conv => whnf
  refine ⟨⟨false, [], []⟩, by kernel_rfl, ?_⟩; (conv => whnf)
  refine ⟨by decide, _, rfl, ?_⟩
  (conv => whnf); (try (refine ⟨(rfl : (_ : Heap) = _), ?_⟩; (conv => whnf)))
  refine ⟨by decide, _, rfl, ?_⟩
  (conv => whnf); (try (refine ⟨(rfl : (_ : Heap) = _), ?_⟩; (conv => whnf)))
  (repeat (first | (refine ⟨fun _ => ?_, fun h => absurd h (by decide)⟩; (conv => whnf); (try (refine ⟨(rfl : (_ : Heap) = _), ?_⟩; (conv => whnf)))) | (refine ⟨fun h => absurd h (by decide), fun _ => ?_⟩; (conv => whnf); (try (refine ⟨(rfl : (_ : Heap) = _), ?_⟩; (conv => whnf))))))
  exact ⟨.inl rfl, _, .refl _, rfl, rfl⟩

theorem ins0_sound (X : Ob) : SoundAt Try.prog 81 [X] [.lst 1 0 [], I 0, I 0, .fn 36 [] [.ref 0 [] 1 0 0]] (.tup []) [X] := by
  refine SoundAt.of_wpA (fn := Try.f81) Try.func81 rfl ?_
  conv => whnf
  refine .ofN 1 (.step ?_)
  conv => whnf
  (repeat (first | (refine ⟨fun _ => ?_, fun h => absurd h (by decide)⟩; (conv => whnf); (try (refine ⟨(rfl : (_ : Heap) = _), ?_⟩; (conv => whnf)))) | (refine ⟨fun h => absurd h (by decide), fun _ => ?_⟩; (conv => whnf); (try (refine ⟨(rfl : (_ : Heap) = _), ?_⟩; (conv => whnf))))))
  refine .inr ⟨by simp, ?_⟩
  conv => whnf
  exact ⟨.inr rfl, _, .refl _, rfl, rfl⟩
theorem ins2_sound (X1 X2 X3 : Ob) : SoundAt Try.prog 81 [⟨1, 22, 1, [[lCal [cA, cB]]], 0⟩, X1, X2, X3, ⟨2, 3, 1, ([0, 1] : List Int).map encI, 0⟩] [.sl 4 [] 1 0 2 false, I 0, I 2, .fn 36 [] [.ref 0 [] 1 0 0]] (.tup []) [⟨1, 22, 1, [[lCal [cA, cB]]], 0⟩, X1, X2, X3, ⟨2, 3, 1, ([1, 0] : List Int).map encI, 0⟩] := by
  refine SoundAt.of_wpA (fn := Try.f81) Try.func81 rfl ?_
  conv => whnf
  refine .ofN 2 (.step ?_)
  conv => whnf
  (repeat (first | (refine ⟨fun _ => ?_, fun h => absurd h (by decide)⟩; (conv => whnf); (try (refine ⟨(rfl : (_ : Heap) = _), ?_⟩; (conv => whnf)))) | (refine ⟨fun h => absurd h (by decide), fun _ => ?_⟩; (conv => whnf); (try (refine ⟨(rfl : (_ : Heap) = _), ?_⟩; (conv => whnf))))))
  refine .ofN 2 (.step ?_)
  conv => whnf
  (repeat (first | (refine ⟨fun _ => ?_, fun h => absurd h (by decide)⟩; (conv => whnf); (try (refine ⟨(rfl : (_ : Heap) = _), ?_⟩; (conv => whnf)))) | (refine ⟨fun h => absurd h (by decide), fun _ => ?_⟩; (conv => whnf); (try (refine ⟨(rfl : (_ : Heap) = _), ?_⟩; (conv => whnf))))))
  refine ⟨⟨false, [], []⟩, by kernel_rfl, ?_⟩; (conv => whnf)
  (repeat (first | (refine ⟨fun _ => ?_, fun h => absurd h (by decide)⟩; (conv => whnf); (try (refine ⟨(rfl : (_ : Heap) = _), ?_⟩; (conv => whnf)))) | (refine ⟨fun h => absurd h (by decide), fun _ => ?_⟩; (conv => whnf); (try (refine ⟨(rfl : (_ : Heap) = _), ?_⟩; (conv => whnf))))))
  refine ⟨by decide, by decide, ?_⟩
  (conv => whnf); (try (refine ⟨(rfl : (_ : Heap) = _), ?_⟩; (conv => whnf)))
  refine ⟨_, rfl, Nat.le_of_ble_eq_true rfl, ?_⟩
  (conv => whnf); (try (refine ⟨(rfl : (_ : Heap) = _), ?_⟩; (conv => whnf)))
  refine ⟨by decide, by decide, ?_⟩
  (conv => whnf); (try (refine ⟨(rfl : (_ : Heap) = _), ?_⟩; (conv => whnf)))
  refine ⟨_, rfl, Nat.le_of_ble_eq_true rfl, ?_⟩
  (conv => whnf); (try (refine ⟨(rfl : (_ : Heap) = _), ?_⟩; (conv => whnf)))
  refine ⟨_, _, cmp10_sound X1 X2 X3 _, ?_⟩
  (conv => whnf); (try (refine ⟨(rfl : (_ : Heap) = _), ?_⟩; (conv => whnf)))
  (repeat (first | (refine ⟨fun _ => ?_, fun h => absurd h (by decide)⟩; (conv => whnf); (try (refine ⟨(rfl : (_ : Heap) = _), ?_⟩; (conv => whnf)))) | (refine ⟨fun h => absurd h (by decide), fun _ => ?_⟩; (conv => whnf); (try (refine ⟨(rfl : (_ : Heap) = _), ?_⟩; (conv => whnf))))))
  refine ⟨⟨false, [], []⟩, by kernel_rfl, ?_⟩; (conv => whnf)
  refine ⟨by decide, by decide, ?_⟩
  (conv => whnf); (try (refine ⟨(rfl : (_ : Heap) = _), ?_⟩; (conv => whnf)))
  refine ⟨_, rfl, Nat.le_of_ble_eq_true rfl, ?_⟩
  (conv => whnf); (try (refine ⟨(rfl : (_ : Heap) = _), ?_⟩; (conv => whnf)))
  refine ⟨by decide, by decide, ?_⟩
  (conv => whnf); (try (refine ⟨(rfl : (_ : Heap) = _), ?_⟩; (conv => whnf)))
  refine ⟨_, rfl, Nat.le_of_ble_eq_true rfl, ?_⟩
  (conv => whnf); (try (refine ⟨(rfl : (_ : Heap) = _), ?_⟩; (conv => whnf)))
  refine ⟨by decide, by decide, ?_⟩
  (conv => whnf); (try (refine ⟨(rfl : (_ : Heap) = _), ?_⟩; (conv => whnf)))
  refine ⟨_, rfl, rfl, ?_⟩
  (conv => whnf); (try (refine ⟨(rfl : (_ : Heap) = _), ?_⟩; (conv => whnf)))
  refine ⟨by decide, by decide, ?_⟩
  (conv => whnf); (try (refine ⟨(rfl : (_ : Heap) = _), ?_⟩; (conv => whnf)))
  refine ⟨_, rfl, rfl, ?_⟩
  (conv => whnf); (try (refine ⟨(rfl : (_ : Heap) = _), ?_⟩; (conv => whnf)))
  refine .inl ⟨rfl, .step ?_⟩
  conv => whnf
  refine ⟨⟨false, [], []⟩, by kernel_rfl, ?_⟩; (conv => whnf)
  (repeat (first | (refine ⟨fun _ => ?_, fun h => absurd h (by decide)⟩; (conv => whnf); (try (refine ⟨(rfl : (_ : Heap) = _), ?_⟩; (conv => whnf)))) | (refine ⟨fun h => absurd h (by decide), fun _ => ?_⟩; (conv => whnf); (try (refine ⟨(rfl : (_ : Heap) = _), ?_⟩; (conv => whnf))))))
  refine .inr ⟨by simp, ?_⟩
  conv => whnf
  refine .inl ⟨rfl, .step ?_⟩
  conv => whnf
  (repeat (first | (refine ⟨fun _ => ?_, fun h => absurd h (by decide)⟩; (conv => whnf); (try (refine ⟨(rfl : (_ : Heap) = _), ?_⟩; (conv => whnf)))) | (refine ⟨fun h => absurd h (by decide), fun _ => ?_⟩; (conv => whnf); (try (refine ⟨(rfl : (_ : Heap) = _), ?_⟩; (conv => whnf))))))
  refine .inr ⟨by simp, ?_⟩
  conv => whnf
  exact ⟨.inr rfl, _, .refl _, rfl, rfl⟩

theorem stable0_sound (X : Ob) : SoundAt Try.prog 58 [X] [.lst 1 0 [], I 0, .fn 36 [] [.ref 0 [] 1 0 0]] (.tup []) [X] := by
  refine SoundAt.of_wpA (fn := Try.f58) Try.func58 rfl ?_
  conv => whnf
  refine .ofN 1 (.step ?_)
  conv => whnf
  (repeat (first | (refine ⟨fun _ => ?_, fun h => absurd h (by decide)⟩; (conv => whnf); (try (refine ⟨(rfl : (_ : Heap) = _), ?_⟩; (conv => whnf)))) | (refine ⟨fun h => absurd h (by decide), fun _ => ?_⟩; (conv => whnf); (try (refine ⟨(rfl : (_ : Heap) = _), ?_⟩; (conv => whnf))))))
  refine .inr ⟨by simp, ?_⟩
  conv => whnf
  refine ⟨_, _, ins0_sound X, ?_⟩
  (conv => whnf); (try (refine ⟨(rfl : (_ : Heap) = _), ?_⟩; (conv => whnf)))
  refine .ofN 1 (.step ?_)
  conv => whnf
  (repeat (first | (refine ⟨fun _ => ?_, fun h => absurd h (by decide)⟩; (conv => whnf); (try (refine ⟨(rfl : (_ : Heap) = _), ?_⟩; (conv => whnf)))) | (refine ⟨fun h => absurd h (by decide), fun _ => ?_⟩; (conv => whnf); (try (refine ⟨(rfl : (_ : Heap) = _), ?_⟩; (conv => whnf))))))
  refine .inr ⟨by simp, ?_⟩
  conv => whnf
  exact ⟨.inr rfl, _, .refl _, rfl, rfl⟩
theorem sort0_sound (X : Ob) : SoundAt Try.prog 35 [X] [.lst 1 0 [], .fn 36 [] [.ref 0 [] 1 0 0]] (.tup []) [X] := by
  refine SoundAt.of_wpA (fn := Try.f35) Try.func35 rfl ?_
  conv => whnf
  refine ⟨_, _, stable0_sound X, ?_⟩
  (conv => whnf); (try (refine ⟨(rfl : (_ : Heap) = _), ?_⟩; (conv => whnf)))
  exact ⟨.inr rfl, _, .refl _, rfl, rfl⟩

theorem order0_sound : SoundAt Try.prog 12 [] [.lst 1 0 []] (.lst 1 0 []) [] := by
  refine SoundAt.of_wpA1 (fn := Try.f12) Try.func12 rfl ?_
  conv => whnf
  refine .ofN 1 (.step ?_)
  conv => whnf
  (repeat (first | (refine ⟨fun _ => ?_, fun h => absurd h (by decide)⟩; (conv => whnf); (try (refine ⟨(rfl : (_ : Heap) = _), ?_⟩; (conv => whnf)))) | (refine ⟨fun h => absurd h (by decide), fun _ => ?_⟩; (conv => whnf); (try (refine ⟨(rfl : (_ : Heap) = _), ?_⟩; (conv => whnf))))))
  refine .inr ⟨by simp, ?_⟩
  conv => whnf
  refine ⟨_, _, sort0_sound _, ?_⟩
  (conv => whnf); (try (refine ⟨(rfl : (_ : Heap) = _), ?_⟩; (conv => whnf)))
  exact ⟨.inl rfl, _, .refl _, rfl⟩

theorem stable2_sound (X1 X2 X3 : Ob) : SoundAt Try.prog 58 [⟨1, 22, 1, [[lCal [cA, cB]]], 0⟩, X1, X2, X3, ⟨2, 3, 1, ([0, 1] : List Int).map encI, 0⟩] [.sl 4 [] 1 0 2 false, I 2, .fn 36 [] [.ref 0 [] 1 0 0]] (.tup []) [⟨1, 22, 1, [[lCal [cA, cB]]], 0⟩, X1, X2, X3, ⟨2, 3, 1, ([1, 0] : List Int).map encI, 0⟩] := by
  refine SoundAt.of_wpA (fn := Try.f58) Try.func58 rfl ?_
  conv => whnf
  refine .ofN 1 (.step ?_)
  conv => whnf
  (repeat (first | (refine ⟨fun _ => ?_, fun h => absurd h (by decide)⟩; (conv => whnf); (try (refine ⟨(rfl : (_ : Heap) = _), ?_⟩; (conv => whnf)))) | (refine ⟨fun h => absurd h (by decide), fun _ => ?_⟩; (conv => whnf); (try (refine ⟨(rfl : (_ : Heap) = _), ?_⟩; (conv => whnf))))))
  refine .inr ⟨by simp, ?_⟩
  conv => whnf
  refine ⟨_, _, ins2_sound X1 X2 X3, ?_⟩
  (conv => whnf); (try (refine ⟨(rfl : (_ : Heap) = _), ?_⟩; (conv => whnf)))
  refine .ofN 1 (.step ?_)
  conv => whnf
  (repeat (first | (refine ⟨fun _ => ?_, fun h => absurd h (by decide)⟩; (conv => whnf); (try (refine ⟨(rfl : (_ : Heap) = _), ?_⟩; (conv => whnf)))) | (refine ⟨fun h => absurd h (by decide), fun _ => ?_⟩; (conv => whnf); (try (refine ⟨(rfl : (_ : Heap) = _), ?_⟩; (conv => whnf))))))
  refine .inr ⟨by simp, ?_⟩
  conv => whnf
  exact ⟨.inr rfl, _, .refl _, rfl, rfl⟩
theorem sort2_sound (X1 X2 X3 : Ob) : SoundAt Try.prog 35 [⟨1, 22, 1, [[lCal [cA, cB]]], 0⟩, X1, X2, X3, ⟨2, 3, 1, ([0, 1] : List Int).map encI, 0⟩] [.sl 4 [] 1 0 2 false, .fn 36 [] [.ref 0 [] 1 0 0]] (.tup []) [⟨1, 22, 1, [[lCal [cA, cB]]], 0⟩, X1, X2, X3, ⟨2, 3, 1, ([1, 0] : List Int).map encI, 0⟩] := by
  refine SoundAt.of_wpA (fn := Try.f35) Try.func35 rfl ?_
  conv => whnf
  refine ⟨_, _, stable2_sound X1 X2 X3, ?_⟩
  (conv => whnf); (try (refine ⟨(rfl : (_ : Heap) = _), ?_⟩; (conv => whnf)))
  exact ⟨.inr rfl, _, .refl _, rfl, rfl⟩

theorem order2_sound : SoundAt Try.prog 12 [] [lCal [cA, cB]] (lI [1, 0]) [] := by
  refine SoundAt.of_wpA1 (fn := Try.f12) Try.func12 rfl ?_
  conv => whnf
  refine .ofN 3 (.step ?_)
  conv => whnf
  (repeat (first | (refine ⟨fun _ => ?_, fun h => absurd h (by decide)⟩; (conv => whnf); (try (refine ⟨(rfl : (_ : Heap) = _), ?_⟩; (conv => whnf)))) | (refine ⟨fun h => absurd h (by decide), fun _ => ?_⟩; (conv => whnf); (try (refine ⟨(rfl : (_ : Heap) = _), ?_⟩; (conv => whnf))))))
  refine ⟨by decide, _, rfl, ?_⟩
  (conv => whnf); (try (refine ⟨(rfl : (_ : Heap) = _), ?_⟩; (conv => whnf)))
  (repeat (first | (refine ⟨fun _ => ?_, fun h => absurd h (by decide)⟩; (conv => whnf); (try (refine ⟨(rfl : (_ : Heap) = _), ?_⟩; (conv => whnf)))) | (refine ⟨fun h => absurd h (by decide), fun _ => ?_⟩; (conv => whnf); (try (refine ⟨(rfl : (_ : Heap) = _), ?_⟩; (conv => whnf))))))
  refine .inr ⟨.inl rfl, Nat.le_of_ble_eq_true rfl, Nat.le_of_ble_eq_true rfl, ?_⟩
  (conv => whnf); (try (refine ⟨(rfl : (_ : Heap) = _), ?_⟩; (conv => whnf)))
  refine .inl ⟨rfl, .step ?_⟩
  conv => whnf
  (repeat (first | (refine ⟨fun _ => ?_, fun h => absurd h (by decide)⟩; (conv => whnf); (try (refine ⟨(rfl : (_ : Heap) = _), ?_⟩; (conv => whnf)))) | (refine ⟨fun h => absurd h (by decide), fun _ => ?_⟩; (conv => whnf); (try (refine ⟨(rfl : (_ : Heap) = _), ?_⟩; (conv => whnf))))))
  refine ⟨by decide, _, rfl, ?_⟩
  (conv => whnf); (try (refine ⟨(rfl : (_ : Heap) = _), ?_⟩; (conv => whnf)))
  (repeat (first | (refine ⟨fun _ => ?_, fun h => absurd h (by decide)⟩; (conv => whnf); (try (refine ⟨(rfl : (_ : Heap) = _), ?_⟩; (conv => whnf)))) | (refine ⟨fun h => absurd h (by decide), fun _ => ?_⟩; (conv => whnf); (try (refine ⟨(rfl : (_ : Heap) = _), ?_⟩; (conv => whnf))))))
  refine ⟨rfl, rfl, Nat.le_of_ble_eq_true rfl, Nat.le_of_ble_eq_true rfl, ?_⟩
  (conv => whnf); (try (refine ⟨(rfl : (_ : Heap) = _), ?_⟩; (conv => whnf)))
  refine .inl ⟨rfl, .step ?_⟩
  conv => whnf
  (repeat (first | (refine ⟨fun _ => ?_, fun h => absurd h (by decide)⟩; (conv => whnf); (try (refine ⟨(rfl : (_ : Heap) = _), ?_⟩; (conv => whnf)))) | (refine ⟨fun h => absurd h (by decide), fun _ => ?_⟩; (conv => whnf); (try (refine ⟨(rfl : (_ : Heap) = _), ?_⟩; (conv => whnf))))))
  refine .inr ⟨by simp, ?_⟩
  conv => whnf
  refine ⟨_, _, sort2_sound _ _ _, ?_⟩
  (conv => whnf); (try (refine ⟨(rfl : (_ : Heap) = _), ?_⟩; (conv => whnf)))
  exact ⟨.inl rfl, _, Weak.freezeA 2 rfl rfl (by simp) (fun r hr c hc => List.all_eq_true.1 (List.all_eq_true.1 (rfl : (([1, 0] : List Int).map encI).all (·.all noOwn) = true) _ hr) c hc), rfl⟩

theorem traced : SoundAt Try.prog 10 [] [] (Bo true) [] := traced_sound order2_sound order0_sound

end Go.Cal
