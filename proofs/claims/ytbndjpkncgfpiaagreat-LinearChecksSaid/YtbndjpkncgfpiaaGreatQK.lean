/- Joined: SrtE SrtF SrtG SrtH. -/
import Derived.Test.YtbndjpkncgfpiaaGreatQJ
/- The stable sort, walked: the merge of rows of any length. -/
namespace Go.Srt
open Go.Ab Go.Proofs Go.Hy Go.Cal
set_option linter.unusedVariables false
set_option linter.unusedSimpArgs false
set_option maxRecDepth 100000
set_option maxHeartbeats 4000000


/-- What a merge brings about. -/
def Merges (cs : List Cal) (N : Nat) (A X Y Z W : List Int) (a m b : Nat) : Prop :=
  a = A.length → m = A.length + X.length → b = A.length + X.length + Y.length → 0 < X.length → 0 < Y.length → N = (A ++ (X ++ (Y ++ Z))).length → Rg cs.length X → Rg cs.length Y → Sd (ptV cs) X → Sd (ptV cs) Y → Stb (ptV cs) X Y →
    Sd (ptV cs) W → W.Perm (X ++ Y) → SoundAt Tryz.prog 55 [⟨1, 41, 1, [[lCal cs]], 0⟩, ⟨2, 3, 1, (A ++ (X ++ (Y ++ Z))).map encI, 0⟩] [.sl 1 [] 1 0 N false, I a, I m, I b, .fn 27 [] [.ref 0 [] 1 0 0]] (.tup []) [⟨1, 41, 1, [[lCal cs]], 0⟩, ⟨2, 3, 1, (A ++ (W ++ Z)).map encI, 0⟩]



theorem tail3 (cs : List Cal) (N a m b mid t e : Nat) (A X Y Z W : List Int) (ea : mid = A.length) (em : e = mid + X.length) (eb : b = e + Y.length)
    (hm : 0 < X.length → 0 < Y.length → SoundAt Tryz.prog 55 [⟨1, 41, 1, [[lCal cs]], 0⟩, ⟨2, 3, 1, (A ++ (X ++ (Y ++ Z))).map encI, 0⟩] [.sl 1 [] 1 0 N false, I mid, I e, I b, .fn 27 [] [.ref 0 [] 1 0 0]] (.tup []) [⟨1, 41, 1, [[lCal cs]], 0⟩, ⟨2, 3, 1, (A ++ (W ++ Z)).map encI, 0⟩]) (h0 : ¬ (0 < X.length ∧ 0 < Y.length) → W = X ++ Y) :
    RunR Tryz.prog 2 (behind 11 ((Tryz.f55.body).getD .skip)) ⟨[.sl 1 [] 1 0 N false, I a, I m, I b, .fn 27 [] [.ref 0 [] 1 0 0], .junk, .junk, .junk, .junk, .junk, .junk, .junk, .junk, .junk, .junk, .junk, .junk, .junk, I mid, .junk, I t, .junk, .junk, .junk, I e, .junk, .junk, .junk, .junk, .junk, .junk, .junk, .junk, .junk, .junk, .junk, .junk, .junk, .junk, .junk, .junk, .junk, .junk, .junk, .junk, .junk, .junk, .junk, .junk, .junk, .junk, .junk, .junk, .junk, .junk, .junk, .junk, .junk, .junk, .junk, .junk, .junk, .junk, .junk, .junk, .junk, .junk, .junk, .junk, .junk, .junk, .junk, .junk, .junk, .junk, .junk, .junk, .junk, .junk, .junk, .junk, .junk, .junk, .junk, .junk, .junk, .junk, .junk, .junk, .junk, .junk, .junk, .junk, .junk, .junk, .junk, .junk, .junk, .junk, .junk, .junk, .junk, .junk, .junk, .junk, .junk, .junk, .junk, .junk, .junk, .junk, .junk, .junk, .junk, .junk, .junk, .junk, .junk, .junk, .junk, .junk, .junk, .junk, .junk, .junk, .junk, .junk, .junk, .junk, .junk, .junk, .junk, .junk, .junk, .junk, .junk, .junk, .junk, .junk, .junk, .junk, .junk, .junk, .junk, .junk, .junk, .junk, .junk, .junk, .junk, .junk, .junk, .junk, .junk, .junk, .junk, .junk, .junk, .junk, .junk, .junk, .junk, .junk, .junk, .junk, .junk, .junk, .junk, .junk, .junk, .junk, .junk, .junk, .junk, .junk, .junk, .junk, .junk, .junk, .junk, .junk, .junk, .junk, .junk, .junk, .junk, .junk, .junk, .junk, .junk, .junk, .junk, .junk, .junk, .junk, .junk, .junk, .junk, .junk, .junk, .junk, .junk, .junk, .junk, .junk, .junk, .junk, .junk, .junk, .junk, .junk, .junk, .junk, .junk, .junk, .junk, .junk, .junk, .junk, .junk], [⟨1, 41, 1, [[lCal cs]], 0⟩, ⟨2, 3, 1, (A ++ (X ++ (Y ++ Z))).map encI, 0⟩]⟩ fun ex s => (ex = .ret ∨ ex = .normal) ∧ s.H = [⟨1, 41, 1, [[lCal cs]], 0⟩, ⟨2, 3, 1, (A ++ (W ++ Z)).map encI, 0⟩] ∧ resC Tryz.prog Tryz.f55 s = some (.tup []) := by
  refine wpA_spec (K := fun ex t H => (ex = .ret ∨ ex = .normal) ∧ H = [⟨1, 41, 1, [[lCal cs]], 0⟩, ⟨2, 3, 1, (A ++ (W ++ Z)).map encI, 0⟩] ∧ resC Tryz.prog Tryz.f55 ⟨t, H⟩ = some (.tup [])) ?_
  conv => whnf
  by_cases hr : mid < e ∧ e < b
  · refine ⟨fun _ => ?_, fun h => absurd h (by simp; omega)⟩
    (conv => whnf); (try (refine ⟨(rfl : (_ : Heap) = _), ?_⟩; (conv => whnf)))
    refine ⟨fun _ => ?_, fun h => absurd h (by simp; omega)⟩
    (conv => whnf); (try (refine ⟨(rfl : (_ : Heap) = _), ?_⟩; (conv => whnf)))
    refine ⟨_, _, hm (by omega) (by omega), ?_⟩
    (conv => whnf); (try (refine ⟨(rfl : (_ : Heap) = _), ?_⟩; (conv => whnf)))
    exact ⟨.inr rfl, rfl, rfl⟩
  · rw [h0 (by omega), List.append_assoc]
    rcases Nat.lt_or_ge mid e with g | g
    · refine ⟨fun _ => ?_, fun h => absurd h (by simp; omega)⟩
      (conv => whnf); (try (refine ⟨(rfl : (_ : Heap) = _), ?_⟩; (conv => whnf)))
      refine ⟨fun h => absurd h (by simp; omega), fun _ => ?_⟩
      (conv => whnf); (try (refine ⟨(rfl : (_ : Heap) = _), ?_⟩; (conv => whnf)))
      exact ⟨.inr rfl, rfl, rfl⟩
    · refine ⟨fun h => absurd h (by simp; omega), fun _ => ?_⟩
      (conv => whnf); (try (refine ⟨(rfl : (_ : Heap) = _), ?_⟩; (conv => whnf)))
      exact ⟨.inr rfl, rfl, rfl⟩

theorem tail2 (cs : List Cal) (N a m b mid t e : Nat) (A X Y Z W : List Int) (R : Exit → S → Prop) (ea : a = A.length) (em : t = a + X.length) (eb : mid = t + Y.length)
    (hm : 0 < X.length → 0 < Y.length → SoundAt Tryz.prog 55 [⟨1, 41, 1, [[lCal cs]], 0⟩, ⟨2, 3, 1, (A ++ (X ++ (Y ++ Z))).map encI, 0⟩] [.sl 1 [] 1 0 N false, I a, I t, I mid, .fn 27 [] [.ref 0 [] 1 0 0]] (.tup []) [⟨1, 41, 1, [[lCal cs]], 0⟩, ⟨2, 3, 1, (A ++ (W ++ Z)).map encI, 0⟩]) (h0 : ¬ (0 < X.length ∧ 0 < Y.length) → W = X ++ Y)
    (hn : RunR Tryz.prog 2 (behind 11 ((Tryz.f55.body).getD .skip)) ⟨[.sl 1 [] 1 0 N false, I a, I m, I b, .fn 27 [] [.ref 0 [] 1 0 0], .junk, .junk, .junk, .junk, .junk, .junk, .junk, .junk, .junk, .junk, .junk, .junk, .junk, I mid, .junk, I t, .junk, .junk, .junk, I e, .junk, .junk, .junk, .junk, .junk, .junk, .junk, .junk, .junk, .junk, .junk, .junk, .junk, .junk, .junk, .junk, .junk, .junk, .junk, .junk, .junk, .junk, .junk, .junk, .junk, .junk, .junk, .junk, .junk, .junk, .junk, .junk, .junk, .junk, .junk, .junk, .junk, .junk, .junk, .junk, .junk, .junk, .junk, .junk, .junk, .junk, .junk, .junk, .junk, .junk, .junk, .junk, .junk, .junk, .junk, .junk, .junk, .junk, .junk, .junk, .junk, .junk, .junk, .junk, .junk, .junk, .junk, .junk, .junk, .junk, .junk, .junk, .junk, .junk, .junk, .junk, .junk, .junk, .junk, .junk, .junk, .junk, .junk, .junk, .junk, .junk, .junk, .junk, .junk, .junk, .junk, .junk, .junk, .junk, .junk, .junk, .junk, .junk, .junk, .junk, .junk, .junk, .junk, .junk, .junk, .junk, .junk, .junk, .junk, .junk, .junk, .junk, .junk, .junk, .junk, .junk, .junk, .junk, .junk, .junk, .junk, .junk, .junk, .junk, .junk, .junk, .junk, .junk, .junk, .junk, .junk, .junk, .junk, .junk, .junk, .junk, .junk, .junk, .junk, .junk, .junk, .junk, .junk, .junk, .junk, .junk, .junk, .junk, .junk, .junk, .junk, .junk, .junk, .junk, .junk, .junk, .junk, .junk, .junk, .junk, .junk, .junk, .junk, .junk, .junk, .junk, .junk, .junk, .junk, .junk, .junk, .junk, .junk, .junk, .junk, .junk, .junk, .junk, .junk, .junk, .junk, .junk, .junk, .junk, .junk, .junk, .junk, .junk, .junk, .junk, .junk, .junk, .junk, .junk, .junk], [⟨1, 41, 1, [[lCal cs]], 0⟩, ⟨2, 3, 1, (A ++ (W ++ Z)).map encI, 0⟩]⟩ R) :
    RunR Tryz.prog 2 (behind 10 ((Tryz.f55.body).getD .skip)) ⟨[.sl 1 [] 1 0 N false, I a, I m, I b, .fn 27 [] [.ref 0 [] 1 0 0], .junk, .junk, .junk, .junk, .junk, .junk, .junk, .junk, .junk, .junk, .junk, .junk, .junk, I mid, .junk, I t, .junk, .junk, .junk, I e, .junk, .junk, .junk, .junk, .junk, .junk, .junk, .junk, .junk, .junk, .junk, .junk, .junk, .junk, .junk, .junk, .junk, .junk, .junk, .junk, .junk, .junk, .junk, .junk, .junk, .junk, .junk, .junk, .junk, .junk, .junk, .junk, .junk, .junk, .junk, .junk, .junk, .junk, .junk, .junk, .junk, .junk, .junk, .junk, .junk, .junk, .junk, .junk, .junk, .junk, .junk, .junk, .junk, .junk, .junk, .junk, .junk, .junk, .junk, .junk, .junk, .junk, .junk, .junk, .junk, .junk, .junk, .junk, .junk, .junk, .junk, .junk, .junk, .junk, .junk, .junk, .junk, .junk, .junk, .junk, .junk, .junk, .junk, .junk, .junk, .junk, .junk, .junk, .junk, .junk, .junk, .junk, .junk, .junk, .junk, .junk, .junk, .junk, .junk, .junk, .junk, .junk, .junk, .junk, .junk, .junk, .junk, .junk, .junk, .junk, .junk, .junk, .junk, .junk, .junk, .junk, .junk, .junk, .junk, .junk, .junk, .junk, .junk, .junk, .junk, .junk, .junk, .junk, .junk, .junk, .junk, .junk, .junk, .junk, .junk, .junk, .junk, .junk, .junk, .junk, .junk, .junk, .junk, .junk, .junk, .junk, .junk, .junk, .junk, .junk, .junk, .junk, .junk, .junk, .junk, .junk, .junk, .junk, .junk, .junk, .junk, .junk, .junk, .junk, .junk, .junk, .junk, .junk, .junk, .junk, .junk, .junk, .junk, .junk, .junk, .junk, .junk, .junk, .junk, .junk, .junk, .junk, .junk, .junk, .junk, .junk, .junk, .junk, .junk, .junk, .junk, .junk, .junk, .junk, .junk], [⟨1, 41, 1, [[lCal cs]], 0⟩, ⟨2, 3, 1, (A ++ (X ++ (Y ++ Z))).map encI, 0⟩]⟩ R := by
  refine cutK ?_
  conv => whnf
  by_cases hr : a < t ∧ t < mid
  · refine ⟨fun _ => ?_, fun h => absurd h (by simp; omega)⟩
    (conv => whnf); (try (refine ⟨(rfl : (_ : Heap) = _), ?_⟩; (conv => whnf)))
    refine ⟨fun _ => ?_, fun h => absurd h (by simp; omega)⟩
    (conv => whnf); (try (refine ⟨(rfl : (_ : Heap) = _), ?_⟩; (conv => whnf)))
    refine ⟨_, _, hm (by omega) (by omega), ?_⟩
    (conv => whnf); (try (refine ⟨(rfl : (_ : Heap) = _), ?_⟩; (conv => whnf)))
    exact .inl ⟨rfl, _, _, Weak.cov (by (conv => whnf); (repeat (refine ⟨rfl, ?_⟩; (conv => whnf))); exact trivial), hn⟩
  · rw [h0 (by omega), List.append_assoc] at hn
    rcases Nat.lt_or_ge a t with g | g
    · refine ⟨fun _ => ?_, fun h => absurd h (by simp; omega)⟩
      (conv => whnf); (try (refine ⟨(rfl : (_ : Heap) = _), ?_⟩; (conv => whnf)))
      refine ⟨fun h => absurd h (by simp; omega), fun _ => ?_⟩
      (conv => whnf); (try (refine ⟨(rfl : (_ : Heap) = _), ?_⟩; (conv => whnf)))
      exact .inl ⟨rfl, _, _, Weak.cov (by (conv => whnf); (repeat (refine ⟨rfl, ?_⟩; (conv => whnf))); exact trivial), hn⟩
    · refine ⟨fun h => absurd h (by simp; omega), fun _ => ?_⟩
      (conv => whnf); (try (refine ⟨(rfl : (_ : Heap) = _), ?_⟩; (conv => whnf)))
      exact .inl ⟨rfl, _, _, Weak.cov (by (conv => whnf); (repeat (refine ⟨rfl, ?_⟩; (conv => whnf))); exact trivial), hn⟩

theorem tail1 (cs : List Cal) (N a m b mid t e : Nat) (A X Y Z : List Int) (R : Exit → S → Prop) (ea : t = A.length) (em : m = t + X.length) (eb : e = m + Y.length) (hN : N = (A ++ (X ++ (Y ++ Z))).length) (hb : N ≤ 1000000000)
    (hn : RunR Tryz.prog 2 (behind 10 ((Tryz.f55.body).getD .skip)) ⟨[.sl 1 [] 1 0 N false, I a, I m, I b, .fn 27 [] [.ref 0 [] 1 0 0], .junk, .junk, .junk, .junk, .junk, .junk, .junk, .junk, .junk, .junk, .junk, .junk, .junk, I mid, .junk, I t, .junk, .junk, .junk, I e, .junk, .junk, .junk, .junk, .junk, .junk, .junk, .junk, .junk, .junk, .junk, .junk, .junk, .junk, .junk, .junk, .junk, .junk, .junk, .junk, .junk, .junk, .junk, .junk, .junk, .junk, .junk, .junk, .junk, .junk, .junk, .junk, .junk, .junk, .junk, .junk, .junk, .junk, .junk, .junk, .junk, .junk, .junk, .junk, .junk, .junk, .junk, .junk, .junk, .junk, .junk, .junk, .junk, .junk, .junk, .junk, .junk, .junk, .junk, .junk, .junk, .junk, .junk, .junk, .junk, .junk, .junk, .junk, .junk, .junk, .junk, .junk, .junk, .junk, .junk, .junk, .junk, .junk, .junk, .junk, .junk, .junk, .junk, .junk, .junk, .junk, .junk, .junk, .junk, .junk, .junk, .junk, .junk, .junk, .junk, .junk, .junk, .junk, .junk, .junk, .junk, .junk, .junk, .junk, .junk, .junk, .junk, .junk, .junk, .junk, .junk, .junk, .junk, .junk, .junk, .junk, .junk, .junk, .junk, .junk, .junk, .junk, .junk, .junk, .junk, .junk, .junk, .junk, .junk, .junk, .junk, .junk, .junk, .junk, .junk, .junk, .junk, .junk, .junk, .junk, .junk, .junk, .junk, .junk, .junk, .junk, .junk, .junk, .junk, .junk, .junk, .junk, .junk, .junk, .junk, .junk, .junk, .junk, .junk, .junk, .junk, .junk, .junk, .junk, .junk, .junk, .junk, .junk, .junk, .junk, .junk, .junk, .junk, .junk, .junk, .junk, .junk, .junk, .junk, .junk, .junk, .junk, .junk, .junk, .junk, .junk, .junk, .junk, .junk, .junk, .junk, .junk, .junk, .junk, .junk], [⟨1, 41, 1, [[lCal cs]], 0⟩, ⟨2, 3, 1, (A ++ (Y ++ (X ++ Z))).map encI, 0⟩]⟩ R) :
    RunR Tryz.prog 2 (behind 9 ((Tryz.f55.body).getD .skip)) ⟨[.sl 1 [] 1 0 N false, I a, I m, I b, .fn 27 [] [.ref 0 [] 1 0 0], .junk, .junk, .junk, .junk, .junk, .junk, .junk, .junk, .junk, .junk, .junk, .junk, .junk, I mid, .junk, I t, .junk, .junk, .junk, I e, .junk, .junk, .junk, .junk, .junk, .junk, .junk, .junk, .junk, .junk, .junk, .junk, .junk, .junk, .junk, .junk, .junk, .junk, .junk, .junk, .junk, .junk, .junk, .junk, .junk, .junk, .junk, .junk, .junk, .junk, .junk, .junk, .junk, .junk, .junk, .junk, .junk, .junk, .junk, .junk, .junk, .junk, .junk, .junk, .junk, .junk, .junk, .junk, .junk, .junk, .junk, .junk, .junk, .junk, .junk, .junk, .junk, .junk, .junk, .junk, .junk, .junk, .junk, .junk, .junk, .junk, .junk, .junk, .junk, .junk, .junk, .junk, .junk, .junk, .junk, .junk, .junk, .junk, .junk, .junk, .junk, .junk, .junk, .junk, .junk, .junk, .junk, .junk, .junk, .junk, .junk, .junk, .junk, .junk, .junk, .junk, .junk, .junk, .junk, .junk, .junk, .junk, .junk, .junk, .junk, .junk, .junk, .junk, .junk, .junk, .junk, .junk, .junk, .junk, .junk, .junk, .junk, .junk, .junk, .junk, .junk, .junk, .junk, .junk, .junk, .junk, .junk, .junk, .junk, .junk, .junk, .junk, .junk, .junk, .junk, .junk, .junk, .junk, .junk, .junk, .junk, .junk, .junk, .junk, .junk, .junk, .junk, .junk, .junk, .junk, .junk, .junk, .junk, .junk, .junk, .junk, .junk, .junk, .junk, .junk, .junk, .junk, .junk, .junk, .junk, .junk, .junk, .junk, .junk, .junk, .junk, .junk, .junk, .junk, .junk, .junk, .junk, .junk, .junk, .junk, .junk, .junk, .junk, .junk, .junk, .junk, .junk, .junk, .junk, .junk, .junk, .junk, .junk, .junk, .junk], [⟨1, 41, 1, [[lCal cs]], 0⟩, ⟨2, 3, 1, (A ++ (X ++ (Y ++ Z))).map encI, 0⟩]⟩ R := by
  refine cutK ?_
  conv => whnf
  by_cases hr : t < m ∧ m < e
  · refine ⟨fun _ => ?_, fun h => absurd h (by simp; omega)⟩
    (conv => whnf); (try (refine ⟨(rfl : (_ : Heap) = _), ?_⟩; (conv => whnf)))
    refine ⟨fun _ => ?_, fun h => absurd h (by simp; omega)⟩
    (conv => whnf); (try (refine ⟨(rfl : (_ : Heap) = _), ?_⟩; (conv => whnf)))
    refine ⟨_, _, rotate_sound cs N A X Y Z ea (by omega) (by omega) (by omega) (by omega) hN hb, ?_⟩
    (conv => whnf); (try (refine ⟨(rfl : (_ : Heap) = _), ?_⟩; (conv => whnf)))
    exact .inl ⟨rfl, _, _, Weak.cov (by (conv => whnf); (repeat (refine ⟨rfl, ?_⟩; (conv => whnf))); exact trivial), hn⟩
  · rcases Nat.lt_or_ge t m with g | g
    · obtain rfl : Y = [] := List.eq_nil_of_length_eq_zero (by omega)
      refine ⟨fun _ => ?_, fun h => absurd h (by simp; omega)⟩
      (conv => whnf); (try (refine ⟨(rfl : (_ : Heap) = _), ?_⟩; (conv => whnf)))
      refine ⟨fun h => absurd h (by simp; omega), fun _ => ?_⟩
      (conv => whnf); (try (refine ⟨(rfl : (_ : Heap) = _), ?_⟩; (conv => whnf)))
      exact .inl ⟨rfl, _, _, Weak.cov (by (conv => whnf); (repeat (refine ⟨rfl, ?_⟩; (conv => whnf))); exact trivial), hn⟩
    · obtain rfl : X = [] := List.eq_nil_of_length_eq_zero (by omega)
      refine ⟨fun h => absurd h (by simp; omega), fun _ => ?_⟩
      (conv => whnf); (try (refine ⟨(rfl : (_ : Heap) = _), ?_⟩; (conv => whnf)))
      exact .inl ⟨rfl, _, _, Weak.cov (by (conv => whnf); (repeat (refine ⟨rfl, ?_⟩; (conv => whnf))); exact trivial), hn⟩

theorem merge3_sound (cs : List Cal) (N : Nat) (A X Y Z W : List Int) {a m b : Nat} (ea : a = A.length) (em : m = A.length + X.length) (eb : b = A.length + X.length + Y.length) (hX : 1 < X.length) (hY : 1 < Y.length)
    (hN : N = (A ++ (X ++ (Y ++ Z))).length) (hb : N ≤ 1000000000) (hrx : Rg cs.length X) (hry : Rg cs.length Y) (sx : Sd (ptV cs) X) (sy : Sd (ptV cs) Y) (st : Stb (ptV cs) X Y)
    (hs : Sd (ptV cs) W) (hp : W.Perm (X ++ Y)) (ih : ∀ (A' X' Y' Z' W' : List Int) (a' m' b' : Nat), X'.length + Y'.length < X.length + Y.length → Merges cs N A' X' Y' Z' W' a' m' b') :
    SoundAt Tryz.prog 55 [⟨1, 41, 1, [[lCal cs]], 0⟩, ⟨2, 3, 1, (A ++ (X ++ (Y ++ Z))).map encI, 0⟩] [.sl 1 [] 1 0 N false, I a, I m, I b, .fn 27 [] [.ref 0 [] 1 0 0]] (.tup []) [⟨1, 41, 1, [[lCal cs]], 0⟩, ⟨2, 3, 1, (A ++ (W ++ Z)).map encI, 0⟩] := by
  have hN' := hN
  simp only [List.length_append] at hN
  have w1 : IntKind.i64.wrap ((m : Int) - (a : Int)) = (X.length : Nat) := by rw [i64_ok (by omega) (by omega)]; omega
  have w0 : IntKind.i64.wrap ((b : Int) - (m : Int)) = (Y.length : Nat) := by rw [i64_ok (by omega) (by omega)]; omega
  obtain ⟨mid, hmid⟩ : ∃ mid, mid = (a + b) / 2 := ⟨_, rfl⟩
  have w2 : IntKind.i64.wrap ((mid : Int) + (m : Int)) = (mid + m : Nat) := by rw [i64_ok (by omega) (by omega)]; omega
  have w3 : IntKind.i64.wrap (((mid + m : Nat) : Int) - 1) = (mid + m - 1 : Nat) := by rw [i64_ok (by omega) (by omega)]; omega
  obtain ⟨lo, hlo⟩ : ∃ lo, lo = if mid < m then mid + m - b else a := ⟨_, rfl⟩
  obtain ⟨hi, hhi⟩ : ∃ hi, hi = if mid < m then mid else m := ⟨_, rfl⟩
  obtain ⟨t, t1, t2, t3, t4, t5, t6⟩ := sym_key (A := A) (Z := Z) sx sy st (by omega) (by omega) ea (by omega) (by omega) hmid hlo hhi
  have b1 : a ≤ lo := by rw [hlo]; split <;> omega
  have b2 : hi ≤ m := by rw [hhi]; split <;> omega
  have b3 : hi ≤ mid := by rw [hhi]; split <;> omega
  have b4 : mid + m ≤ lo + b := by rw [hlo]; split <;> omega
  have rx : ∀ h, a ≤ h → h < m → dat (A ++ (X ++ (Y ++ Z))) h = dat X (h - a) := fun h h1 h2 => by rw [mid_dat (by omega) (by omega), ea]
  have ry : ∀ h, m ≤ h → h < b → dat (A ++ (X ++ (Y ++ Z))) h = dat Y (h - m) := fun h h1 h2 => by
    rw [mid_dat' (by omega) (by omega)]
    have e : h - A.length - X.length = h - m := by omega
    rw [e]
  obtain ⟨X1, X2, eX1, eX2, rfl⟩ : ∃ X1 X2, X1 = X.take (t - a) ∧ X2 = X.drop (t - a) ∧ X = X1 ++ X2 := ⟨_, _, rfl, rfl, (List.take_append_drop ..).symm⟩
  obtain ⟨Y1, Y2, eY1, eY2, rfl⟩ : ∃ Y1 Y2, Y1 = Y.take (mid - t) ∧ Y2 = Y.drop (mid - t) ∧ Y = Y1 ++ Y2 := ⟨_, _, rfl, rfl, (List.take_append_drop ..).symm⟩
  have l1 : X1.length = t - a := by have := congrArg List.length eX1; rw [List.length_take] at this; omega
  have l2 : Y1.length = mid - t := by have := congrArg List.length eY1; rw [List.length_take] at this; omega
  rw [← eX1, ← eY2] at t5
  rw [← eY1, ← eX2] at t6
  simp only [List.length_append] at em eb hX hY hN ih
  obtain ⟨W1, s1, p1⟩ := exists_sd (pt := ptV cs) (X1 ++ Y1)
  obtain ⟨W2, s2, p2⟩ := exists_sd (pt := ptV cs) (X2 ++ Y2)
  have hj := sym_join rfl rfl sx sy t5 t6 s1 s2 p1 p2
  obtain rfl : W = W1 ++ W2 := Sd.ext hs hj.1 (hp.trans hj.2.symm)
  have hl1 := p1.length_eq
  rw [List.length_append] at hl1
  obtain ⟨sx1, sx2, -⟩ := List.pairwise_append.1 sx
  obtain ⟨sy1, sy2, -⟩ := List.pairwise_append.1 sy
  have m1 := ih A X1 Y1 (X2 ++ (Y2 ++ Z)) W1 a t mid (by omega)
  have m2 := ih (A ++ W1) X2 Y2 Z W2 mid (mid + m - t) b (by omega)
  have w4 : IntKind.i64.wrap (((mid + m : Nat) : Int) - (t : Int)) = (mid + m - t : Nat) := by rw [i64_ok (by omega) (by omega)]; omega
  have E0 : A ++ (X1 ++ X2 ++ (Y1 ++ Y2 ++ Z)) = (A ++ X1) ++ (X2 ++ (Y1 ++ (Y2 ++ Z))) := by simp
  have E1 : (A ++ X1) ++ (Y1 ++ (X2 ++ (Y2 ++ Z))) = A ++ (X1 ++ (Y1 ++ (X2 ++ (Y2 ++ Z)))) := by simp
  have E2 : A ++ (W1 ++ (X2 ++ (Y2 ++ Z))) = (A ++ W1) ++ (X2 ++ (Y2 ++ Z)) := by simp
  have fin : A ++ (W1 ++ W2 ++ Z) = (A ++ W1) ++ (W2 ++ Z) := by simp
  have R1 : ¬ (0 < X1.length ∧ 0 < Y1.length) → W1 = X1 ++ Y1 := fun hn => by
    by_cases g : 0 < X1.length
    · obtain rfl : Y1 = [] := List.eq_nil_of_length_eq_zero (by omega)
      simp only [List.append_nil] at p1 ⊢
      exact Sd.ext s1 sx1 p1
    · obtain rfl : X1 = [] := List.eq_nil_of_length_eq_zero (by omega)
      exact Sd.ext s1 sy1 p1
  have R2 : ¬ (0 < X2.length ∧ 0 < Y2.length) → W2 = X2 ++ Y2 := fun hn => by
    by_cases g : 0 < X2.length
    · obtain rfl : Y2 = [] := List.eq_nil_of_length_eq_zero (by omega)
      simp only [List.append_nil] at p2 ⊢
      exact Sd.ext s2 sx2 p2
    · obtain rfl : X2 = [] := List.eq_nil_of_length_eq_zero (by omega)
      exact Sd.ext s2 sy2 p2
  have last := tail3 cs N a m b mid t (mid + m - t) (A ++ W1) X2 Y2 Z W2 (by simp only [List.length_append]; omega) (by omega) (by omega)
    (fun g1 g2 => m2 (by simp only [List.length_append]; omega) (by simp only [List.length_append]; omega) (by simp only [List.length_append]; omega) g1 g2 (by simp only [List.length_append]; omega) hrx.app.2 hry.app.2 sx2 sy2 (st.sub (fun x h => List.mem_append.2 (.inr h)) (fun x h => List.mem_append.2 (.inr h))) s2 p2) R2
  rw [← E2, ← fin] at last
  have mid2 := tail2 cs N a m b mid t (mid + m - t) A X1 Y1 (X2 ++ (Y2 ++ Z)) W1 _ ea (by omega) (by omega)
    (fun g1 g2 => m1 ea (by omega) (by omega) g1 g2 (by simp only [List.length_append]; omega) hrx.app.1 hry.app.1 sx1 sy1 (st.sub (fun x h => List.mem_append.2 (.inl h)) (fun x h => List.mem_append.2 (.inl h))) s1 p1) R1 last
  rw [← E1] at mid2
  have fst := tail1 cs N a m b mid t (mid + m - t) (A ++ X1) X2 Y1 (Y2 ++ Z) _ (by simp only [List.length_append]; omega) (by omega) (by omega) (by simp only [List.length_append]; omega) hb mid2
  rw [← E0] at fst
  refine SoundAt.of_cut (fn := Tryz.f55) Tryz.func55 rfl ?_
  refine cutK ?_
  conv => whnf
  refine ⟨fun h => absurd h (by rw [w1]; simp; omega), fun _ => ?_⟩
  (conv => whnf); (try (refine ⟨(rfl : (_ : Heap) = _), ?_⟩; (conv => whnf)))
  refine .inl ⟨rfl, _, _, .refl _, cutK ?_⟩
  conv => whnf
  refine ⟨fun h => absurd h (by rw [w0]; simp; omega), fun _ => ?_⟩
  (conv => whnf); (try (refine ⟨(rfl : (_ : Heap) = _), ?_⟩; (conv => whnf)))
  refine .inl ⟨rfl, _, _, .refl _, cutK ?_⟩
  conv => whnf
  rw [half (by omega), ← hmid]
  refine .inl ⟨rfl, _, _, .refl _, cutK ?_⟩
  conv => whnf
  rw [w2]
  refine .inl ⟨rfl, _, _, .refl _, cutK ?_⟩
  conv => whnf
  refine .inl ⟨rfl, _, _, .refl _, ?_⟩
  have go : RunR Tryz.prog 2 (behind 6 ((Tryz.f55.body).getD .skip)) ⟨[.sl 1 [] 1 0 N false, I a, I m, I b, .fn 27 [] [.ref 0 [] 1 0 0], .junk, .junk, .junk, .junk, .junk, .junk, .junk, .junk, .junk, .junk, .junk, .junk, .junk, I mid, I (mid + m : Nat), I lo, I hi, .junk, .junk, .junk, .junk, .junk, .junk, .junk, .junk, .junk, .junk, .junk, .junk, .junk, .junk, .junk, .junk, .junk, .junk, .junk, .junk, .junk, .junk, .junk, .junk, .junk, .junk, .junk, .junk, .junk, .junk, .junk, .junk, .junk, .junk, .junk, .junk, .junk, .junk, .junk, .junk, .junk, .junk, .junk, .junk, .junk, .junk, .junk, .junk, .junk, .junk, .junk, .junk, .junk, .junk, .junk, .junk, .junk, .junk, .junk, .junk, .junk, .junk, .junk, .junk, .junk, .junk, .junk, .junk, .junk, .junk, .junk, .junk, .junk, .junk, .junk, .junk, .junk, .junk, .junk, .junk, .junk, .junk, .junk, .junk, .junk, .junk, .junk, .junk, .junk, .junk, .junk, .junk, .junk, .junk, .junk, .junk, .junk, .junk, .junk, .junk, .junk, .junk, .junk, .junk, .junk, .junk, .junk, .junk, .junk, .junk, .junk, .junk, .junk, .junk, .junk, .junk, .junk, .junk, .junk, .junk, .junk, .junk, .junk, .junk, .junk, .junk, .junk, .junk, .junk, .junk, .junk, .junk, .junk, .junk, .junk, .junk, .junk, .junk, .junk, .junk, .junk, .junk, .junk, .junk, .junk, .junk, .junk, .junk, .junk, .junk, .junk, .junk, .junk, .junk, .junk, .junk, .junk, .junk, .junk, .junk, .junk, .junk, .junk, .junk, .junk, .junk, .junk, .junk, .junk, .junk, .junk, .junk, .junk, .junk, .junk, .junk, .junk, .junk, .junk, .junk, .junk, .junk, .junk, .junk, .junk, .junk, .junk, .junk, .junk, .junk, .junk, .junk, .junk, .junk, .junk, .junk, .junk, .junk], [⟨1, 41, 1, [[lCal cs]], 0⟩, ⟨2, 3, 1, (A ++ (X1 ++ X2 ++ (Y1 ++ Y2 ++ Z))).map encI, 0⟩]⟩ fun ex s => (ex = .ret ∨ ex = .normal) ∧ s.H = [⟨1, 41, 1, [[lCal cs]], 0⟩, ⟨2, 3, 1, (A ++ (W1 ++ W2 ++ Z)).map encI, 0⟩] ∧ resC Tryz.prog Tryz.f55 s = some (.tup []) := by
    clear hlo hhi
    refine cutK ?_
    conv => whnf
    rw [w3]
    refine .inl ⟨rfl, [.sl 1 [] 1 0 N false, I a, I m, I b, .fn 27 [] [.ref 0 [] 1 0 0], .junk, .junk, .junk, .junk, .junk, .junk, .junk, .junk, .junk, .junk, .junk, .junk, .junk, I mid, I (mid + m : Nat), I lo, I hi, I (mid + m - 1 : Nat), .junk, .junk, .junk, .junk, .junk, .junk, .junk, .junk, .junk, .junk, .junk, .junk, .junk, .junk, .junk, .junk, .junk, .junk, .junk, .junk, .junk, .junk, .junk, .junk, .junk, .junk, .junk, .junk, .junk, .junk, .junk, .junk, .junk, .junk, .junk, .junk, .junk, .junk, .junk, .junk, .junk, .junk, .junk, .junk, .junk, .junk, .junk, .junk, .junk, .junk, .junk, .junk, .junk, .junk, .junk, .junk, .junk, .junk, .junk, .junk, .junk, .junk, .junk, .junk, .junk, .junk, .junk, .junk, .junk, .junk, .junk, .junk, .junk, .junk, .junk, .junk, .junk, .junk, .junk, .junk, .junk, .junk, .junk, .junk, .junk, .junk, .junk, .junk, .junk, .junk, .junk, .junk, .junk, .junk, .junk, .junk, .junk, .junk, .junk, .junk, .junk, .junk, .junk, .junk, .junk, .junk, .junk, .junk, .junk, .junk, .junk, .junk, .junk, .junk, .junk, .junk, .junk, .junk, .junk, .junk, .junk, .junk, .junk, .junk, .junk, .junk, .junk, .junk, .junk, .junk, .junk, .junk, .junk, .junk, .junk, .junk, .junk, .junk, .junk, .junk, .junk, .junk, .junk, .junk, .junk, .junk, .junk, .junk, .junk, .junk, .junk, .junk, .junk, .junk, .junk, .junk, .junk, .junk, .junk, .junk, .junk, .junk, .junk, .junk, .junk, .junk, .junk, .junk, .junk, .junk, .junk, .junk, .junk, .junk, .junk, .junk, .junk, .junk, .junk, .junk, .junk, .junk, .junk, .junk, .junk, .junk, .junk, .junk, .junk, .junk, .junk, .junk, .junk, .junk, .junk, .junk, .junk], _, Weak.cov (by (conv => whnf); (repeat (refine ⟨rfl, ?_⟩; (conv => whnf))); exact trivial), cutK ?_⟩
    conv => whnf
    refine Loops.inv (fun q s1 H1 => ∃ (i j : Nat), j - i = q ∧ lo ≤ i ∧ i ≤ t ∧ t ≤ j ∧ j ≤ hi ∧ s1 = [.sl 1 [] 1 0 N false, I a, I m, I b, .fn 27 [] [.ref 0 [] 1 0 0], .junk, .junk, .junk, .junk, .junk, .junk, .junk, .junk, .junk, .junk, .junk, .junk, .junk, I mid, I (mid + m : Nat), I i, I j, I (mid + m - 1 : Nat), .junk, .junk, .junk, .junk, .junk, .junk, .junk, .junk, .junk, .junk, .junk, .junk, .junk, .junk, .junk, .junk, .junk, .junk, .junk, .junk, .junk, .junk, .junk, .junk, .junk, .junk, .junk, .junk, .junk, .junk, .junk, .junk, .junk, .junk, .junk, .junk, .junk, .junk, .junk, .junk, .junk, .junk, .junk, .junk, .junk, .junk, .junk, .junk, .junk, .junk, .junk, .junk, .junk, .junk, .junk, .junk, .junk, .junk, .junk, .junk, .junk, .junk, .junk, .junk, .junk, .junk, .junk, .junk, .junk, .junk, .junk, .junk, .junk, .junk, .junk, .junk, .junk, .junk, .junk, .junk, .junk, .junk, .junk, .junk, .junk, .junk, .junk, .junk, .junk, .junk, .junk, .junk, .junk, .junk, .junk, .junk, .junk, .junk, .junk, .junk, .junk, .junk, .junk, .junk, .junk, .junk, .junk, .junk, .junk, .junk, .junk, .junk, .junk, .junk, .junk, .junk, .junk, .junk, .junk, .junk, .junk, .junk, .junk, .junk, .junk, .junk, .junk, .junk, .junk, .junk, .junk, .junk, .junk, .junk, .junk, .junk, .junk, .junk, .junk, .junk, .junk, .junk, .junk, .junk, .junk, .junk, .junk, .junk, .junk, .junk, .junk, .junk, .junk, .junk, .junk, .junk, .junk, .junk, .junk, .junk, .junk, .junk, .junk, .junk, .junk, .junk, .junk, .junk, .junk, .junk, .junk, .junk, .junk, .junk, .junk, .junk, .junk, .junk, .junk, .junk, .junk, .junk, .junk, .junk, .junk, .junk, .junk, .junk, .junk, .junk, .junk, .junk, .junk, .junk, .junk, .junk, .junk] ∧ H1 = [⟨1, 41, 1, [[lCal cs]], 0⟩, ⟨2, 3, 1, (A ++ (X1 ++ X2 ++ (Y1 ++ Y2 ++ Z))).map encI, 0⟩]) (hi - lo) ?_ ?_
    · exact ⟨[.sl 1 [] 1 0 N false, I a, I m, I b, .fn 27 [] [.ref 0 [] 1 0 0], .junk, .junk, .junk, .junk, .junk, .junk, .junk, .junk, .junk, .junk, .junk, .junk, .junk, I mid, I (mid + m : Nat), I lo, I hi, I (mid + m - 1 : Nat), .junk, .junk, .junk, .junk, .junk, .junk, .junk, .junk, .junk, .junk, .junk, .junk, .junk, .junk, .junk, .junk, .junk, .junk, .junk, .junk, .junk, .junk, .junk, .junk, .junk, .junk, .junk, .junk, .junk, .junk, .junk, .junk, .junk, .junk, .junk, .junk, .junk, .junk, .junk, .junk, .junk, .junk, .junk, .junk, .junk, .junk, .junk, .junk, .junk, .junk, .junk, .junk, .junk, .junk, .junk, .junk, .junk, .junk, .junk, .junk, .junk, .junk, .junk, .junk, .junk, .junk, .junk, .junk, .junk, .junk, .junk, .junk, .junk, .junk, .junk, .junk, .junk, .junk, .junk, .junk, .junk, .junk, .junk, .junk, .junk, .junk, .junk, .junk, .junk, .junk, .junk, .junk, .junk, .junk, .junk, .junk, .junk, .junk, .junk, .junk, .junk, .junk, .junk, .junk, .junk, .junk, .junk, .junk, .junk, .junk, .junk, .junk, .junk, .junk, .junk, .junk, .junk, .junk, .junk, .junk, .junk, .junk, .junk, .junk, .junk, .junk, .junk, .junk, .junk, .junk, .junk, .junk, .junk, .junk, .junk, .junk, .junk, .junk, .junk, .junk, .junk, .junk, .junk, .junk, .junk, .junk, .junk, .junk, .junk, .junk, .junk, .junk, .junk, .junk, .junk, .junk, .junk, .junk, .junk, .junk, .junk, .junk, .junk, .junk, .junk, .junk, .junk, .junk, .junk, .junk, .junk, .junk, .junk, .junk, .junk, .junk, .junk, .junk, .junk, .junk, .junk, .junk, .junk, .junk, .junk, .junk, .junk, .junk, .junk, .junk, .junk, .junk, .junk, .junk, .junk, .junk, .junk], _, Weak.cov (by (conv => whnf); (repeat (refine ⟨rfl, ?_⟩; (conv => whnf))); exact trivial), lo, hi, rfl, by omega, by omega, by omega, by omega, rfl, rfl⟩
    rintro q s1 H1 ⟨i, j, h1, h2, h3, h4, h5, rfl, rfl⟩
    conv => whnf
    refine ⟨fun hc => ?_, fun hc => ?_⟩
    · have hc : i < j := by simpa using hc
      (conv => whnf); (try (refine ⟨(rfl : (_ : Heap) = _), ?_⟩; (conv => whnf)))
      refine ⟨⟨false, [], [], []⟩, by kernel_rfl, ?_⟩; (conv => whnf)
      rw [half (by omega)]
      obtain ⟨h, hh⟩ : ∃ h, h = (i + j) / 2 := ⟨_, rfl⟩
      rw [← hh]
      have w5 : IntKind.i64.wrap (((mid + m - 1 : Nat) : Int) - (h : Int)) = (mid + m - 1 - h : Nat) := by rw [i64_ok (by omega) (by omega)]; omega
      rw [w5]
      refine ⟨by omega, by omega, ?_⟩
      (conv => whnf); (try (refine ⟨(rfl : (_ : Heap) = _), ?_⟩; (conv => whnf)))
      refine ⟨_, by rw [Nat.zero_add, Int.toNat_natCast]; exact drow (by omega), Nat.le_of_ble_eq_true rfl, ?_⟩
      (conv => whnf); (try (refine ⟨(rfl : (_ : Heap) = _), ?_⟩; (conv => whnf)))
      refine ⟨by omega, by omega, ?_⟩
      (conv => whnf); (try (refine ⟨(rfl : (_ : Heap) = _), ?_⟩; (conv => whnf)))
      refine ⟨_, by rw [Nat.zero_add, Int.toNat_natCast]; exact drow (by omega), Nat.le_of_ble_eq_true rfl, ?_⟩
      (conv => whnf); (try (refine ⟨(rfl : (_ : Heap) = _), ?_⟩; (conv => whnf)))
      have v1 := hry (dat (Y1 ++ Y2) (mid + m - 1 - h - m)) (dat_mem (by simp only [List.length_append]; omega))
      rw [← ry _ (by omega) (by omega)] at v1
      have v2 := hrx (dat (X1 ++ X2) (h - a)) (dat_mem (by simp only [List.length_append]; omega))
      rw [← rx _ (by omega) (by omega)] at v2
      refine ⟨_, _, cmp_sound cs _ v1.1 v1.2 v2.1 v2.2, ?_⟩
      (conv => whnf); (try (refine ⟨(rfl : (_ : Heap) = _), ?_⟩; (conv => whnf)))
      refine ⟨fun hc3 => ?_, fun hc3 => ?_⟩
      · have hc3 : ptV cs (dat (A ++ (X1 ++ X2 ++ (Y1 ++ Y2 ++ Z))) (mid + m - 1 - h)) < ptV cs (dat (A ++ (X1 ++ X2 ++ (Y1 ++ Y2 ++ Z))) h) := by rw [cmp_lt] at hc3; simpa using hc3
        have hlt : t ≤ h := by
          rcases Nat.lt_or_ge h t with g | g
          · exact absurd hc3 (t3 h (by omega) g)
          · exact g
        (conv => whnf); (try (refine ⟨(rfl : (_ : Heap) = _), ?_⟩; (conv => whnf)))
        (repeat (first | (refine ⟨fun _ => ?_, fun h => absurd h (by decide)⟩; (conv => whnf); (try (refine ⟨(rfl : (_ : Heap) = _), ?_⟩; (conv => whnf)))) | (refine ⟨fun h => absurd h (by decide), fun _ => ?_⟩; (conv => whnf); (try (refine ⟨(rfl : (_ : Heap) = _), ?_⟩; (conv => whnf))))))
        exact .inl ⟨rfl, h - i, [.sl 1 [] 1 0 N false, I a, I m, I b, .fn 27 [] [.ref 0 [] 1 0 0], .junk, .junk, .junk, .junk, .junk, .junk, .junk, .junk, .junk, .junk, .junk, .junk, .junk, I mid, I (mid + m : Nat), I i, I h, I (mid + m - 1 : Nat), .junk, .junk, .junk, .junk, .junk, .junk, .junk, .junk, .junk, .junk, .junk, .junk, .junk, .junk, .junk, .junk, .junk, .junk, .junk, .junk, .junk, .junk, .junk, .junk, .junk, .junk, .junk, .junk, .junk, .junk, .junk, .junk, .junk, .junk, .junk, .junk, .junk, .junk, .junk, .junk, .junk, .junk, .junk, .junk, .junk, .junk, .junk, .junk, .junk, .junk, .junk, .junk, .junk, .junk, .junk, .junk, .junk, .junk, .junk, .junk, .junk, .junk, .junk, .junk, .junk, .junk, .junk, .junk, .junk, .junk, .junk, .junk, .junk, .junk, .junk, .junk, .junk, .junk, .junk, .junk, .junk, .junk, .junk, .junk, .junk, .junk, .junk, .junk, .junk, .junk, .junk, .junk, .junk, .junk, .junk, .junk, .junk, .junk, .junk, .junk, .junk, .junk, .junk, .junk, .junk, .junk, .junk, .junk, .junk, .junk, .junk, .junk, .junk, .junk, .junk, .junk, .junk, .junk, .junk, .junk, .junk, .junk, .junk, .junk, .junk, .junk, .junk, .junk, .junk, .junk, .junk, .junk, .junk, .junk, .junk, .junk, .junk, .junk, .junk, .junk, .junk, .junk, .junk, .junk, .junk, .junk, .junk, .junk, .junk, .junk, .junk, .junk, .junk, .junk, .junk, .junk, .junk, .junk, .junk, .junk, .junk, .junk, .junk, .junk, .junk, .junk, .junk, .junk, .junk, .junk, .junk, .junk, .junk, .junk, .junk, .junk, .junk, .junk, .junk, .junk, .junk, .junk, .junk, .junk, .junk, .junk, .junk, .junk, .junk, .junk, .junk, .junk, .junk, .junk, .junk, .junk, .junk], _, by omega, Weak.cov (by (conv => whnf); (repeat (refine ⟨rfl, ?_⟩; (conv => whnf))); exact trivial), i, h, rfl, by omega, by omega, by omega, by omega, rfl, rfl⟩
      · have hc3 : ¬ ptV cs (dat (A ++ (X1 ++ X2 ++ (Y1 ++ Y2 ++ Z))) (mid + m - 1 - h)) < ptV cs (dat (A ++ (X1 ++ X2 ++ (Y1 ++ Y2 ++ Z))) h) := by rw [cmp_lt] at hc3; simpa using hc3
        have hlt : h < t := by
          rcases Nat.lt_or_ge h t with g | g
          · exact g
          · exact absurd (t4 h g (by omega)) hc3
        (conv => whnf); (try (refine ⟨(rfl : (_ : Heap) = _), ?_⟩; (conv => whnf)))
        (repeat (first | (refine ⟨fun _ => ?_, fun h => absurd h (by decide)⟩; (conv => whnf); (try (refine ⟨(rfl : (_ : Heap) = _), ?_⟩; (conv => whnf)))) | (refine ⟨fun h => absurd h (by decide), fun _ => ?_⟩; (conv => whnf); (try (refine ⟨(rfl : (_ : Heap) = _), ?_⟩; (conv => whnf))))))
        rw [i64_nat (by omega)]
        exact .inl ⟨rfl, j - (h + 1), [.sl 1 [] 1 0 N false, I a, I m, I b, .fn 27 [] [.ref 0 [] 1 0 0], .junk, .junk, .junk, .junk, .junk, .junk, .junk, .junk, .junk, .junk, .junk, .junk, .junk, I mid, I (mid + m : Nat), I (h + 1 : Nat), I j, I (mid + m - 1 : Nat), .junk, .junk, .junk, .junk, .junk, .junk, .junk, .junk, .junk, .junk, .junk, .junk, .junk, .junk, .junk, .junk, .junk, .junk, .junk, .junk, .junk, .junk, .junk, .junk, .junk, .junk, .junk, .junk, .junk, .junk, .junk, .junk, .junk, .junk, .junk, .junk, .junk, .junk, .junk, .junk, .junk, .junk, .junk, .junk, .junk, .junk, .junk, .junk, .junk, .junk, .junk, .junk, .junk, .junk, .junk, .junk, .junk, .junk, .junk, .junk, .junk, .junk, .junk, .junk, .junk, .junk, .junk, .junk, .junk, .junk, .junk, .junk, .junk, .junk, .junk, .junk, .junk, .junk, .junk, .junk, .junk, .junk, .junk, .junk, .junk, .junk, .junk, .junk, .junk, .junk, .junk, .junk, .junk, .junk, .junk, .junk, .junk, .junk, .junk, .junk, .junk, .junk, .junk, .junk, .junk, .junk, .junk, .junk, .junk, .junk, .junk, .junk, .junk, .junk, .junk, .junk, .junk, .junk, .junk, .junk, .junk, .junk, .junk, .junk, .junk, .junk, .junk, .junk, .junk, .junk, .junk, .junk, .junk, .junk, .junk, .junk, .junk, .junk, .junk, .junk, .junk, .junk, .junk, .junk, .junk, .junk, .junk, .junk, .junk, .junk, .junk, .junk, .junk, .junk, .junk, .junk, .junk, .junk, .junk, .junk, .junk, .junk, .junk, .junk, .junk, .junk, .junk, .junk, .junk, .junk, .junk, .junk, .junk, .junk, .junk, .junk, .junk, .junk, .junk, .junk, .junk, .junk, .junk, .junk, .junk, .junk, .junk, .junk, .junk, .junk, .junk, .junk, .junk, .junk, .junk, .junk, .junk], _, by omega, Weak.cov (by (conv => whnf); (repeat (refine ⟨rfl, ?_⟩; (conv => whnf))); exact trivial), h + 1, j, rfl, by omega, by omega, by omega, by omega, rfl, rfl⟩
    · have hc : i = t := by simp at hc; omega
      subst hc
      (conv => whnf); (try (refine ⟨(rfl : (_ : Heap) = _), ?_⟩; (conv => whnf)))
      refine .inr ⟨by simp, ?_⟩
      conv => whnf
      refine .inl ⟨rfl, [.sl 1 [] 1 0 N false, I a, I m, I b, .fn 27 [] [.ref 0 [] 1 0 0], .junk, .junk, .junk, .junk, .junk, .junk, .junk, .junk, .junk, .junk, .junk, .junk, .junk, I mid, I (mid + m : Nat), I i, I j, I (mid + m - 1 : Nat), .junk, .junk, .junk, .junk, .junk, .junk, .junk, .junk, .junk, .junk, .junk, .junk, .junk, .junk, .junk, .junk, .junk, .junk, .junk, .junk, .junk, .junk, .junk, .junk, .junk, .junk, .junk, .junk, .junk, .junk, .junk, .junk, .junk, .junk, .junk, .junk, .junk, .junk, .junk, .junk, .junk, .junk, .junk, .junk, .junk, .junk, .junk, .junk, .junk, .junk, .junk, .junk, .junk, .junk, .junk, .junk, .junk, .junk, .junk, .junk, .junk, .junk, .junk, .junk, .junk, .junk, .junk, .junk, .junk, .junk, .junk, .junk, .junk, .junk, .junk, .junk, .junk, .junk, .junk, .junk, .junk, .junk, .junk, .junk, .junk, .junk, .junk, .junk, .junk, .junk, .junk, .junk, .junk, .junk, .junk, .junk, .junk, .junk, .junk, .junk, .junk, .junk, .junk, .junk, .junk, .junk, .junk, .junk, .junk, .junk, .junk, .junk, .junk, .junk, .junk, .junk, .junk, .junk, .junk, .junk, .junk, .junk, .junk, .junk, .junk, .junk, .junk, .junk, .junk, .junk, .junk, .junk, .junk, .junk, .junk, .junk, .junk, .junk, .junk, .junk, .junk, .junk, .junk, .junk, .junk, .junk, .junk, .junk, .junk, .junk, .junk, .junk, .junk, .junk, .junk, .junk, .junk, .junk, .junk, .junk, .junk, .junk, .junk, .junk, .junk, .junk, .junk, .junk, .junk, .junk, .junk, .junk, .junk, .junk, .junk, .junk, .junk, .junk, .junk, .junk, .junk, .junk, .junk, .junk, .junk, .junk, .junk, .junk, .junk, .junk, .junk, .junk, .junk, .junk, .junk, .junk, .junk], _, Weak.cov (by (conv => whnf); (repeat (refine ⟨rfl, ?_⟩; (conv => whnf))); exact trivial), cutK ?_⟩
      conv => whnf
      rw [w4]
      exact .inl ⟨rfl, _, _, Weak.cov (by (conv => whnf); (repeat (refine ⟨rfl, ?_⟩; (conv => whnf))); exact trivial), fst⟩
  refine cutK ?_
  conv => whnf
  refine ⟨fun hc => ?_, fun hc => ?_⟩
  · have hc : mid < m := by simpa using hc
    rw [if_pos hc] at hlo hhi
    have e1 : IntKind.i64.wrap (((mid + m : Nat) : Int) - (b : Int)) = (lo : Nat) := by rw [i64_ok (by omega) (by omega)]; omega
    (conv => whnf); (try (refine ⟨(rfl : (_ : Heap) = _), ?_⟩; (conv => whnf)))
    rw [e1]
    rw [hhi] at go
    exact .inl ⟨rfl, _, _, Weak.cov (by (conv => whnf); (repeat (refine ⟨rfl, ?_⟩; (conv => whnf))); exact trivial), go⟩
  · have hc : ¬ mid < m := by simpa using hc
    rw [if_neg hc] at hlo hhi
    (conv => whnf); (try (refine ⟨(rfl : (_ : Heap) = _), ?_⟩; (conv => whnf)))
    rw [hhi, hlo] at go
    exact .inl ⟨rfl, _, _, Weak.cov (by (conv => whnf); (repeat (refine ⟨rfl, ?_⟩; (conv => whnf))); exact trivial), go⟩
theorem symMerge_sound (cs : List Cal) (N : Nat) (hb : N ≤ 1000000000) : ∀ (L : Nat) (A X Y Z W : List Int) (a m b : Nat), X.length + Y.length = L → Merges cs N A X Y Z W a m b := by
  intro L
  induction L using Nat.strongRecOn with
  | _ L ih =>
    intro A X Y Z W a m b hL ea em eb hX hY hN hrx hry sx sy st hs hp
    by_cases h1 : X.length = 1
    · obtain ⟨x, rfl⟩ := List.length_eq_one_iff.1 h1
      exact merge1_sound cs N A Y Z W x ea em eb hY hN hb (hrx x (by simp)) hry sy st hs hp
    · by_cases h2 : Y.length = 1
      · obtain ⟨y, rfl⟩ := List.length_eq_one_iff.1 h2
        exact merge2_sound cs N A X Z W y ea em eb (by omega) hN hb (hry y (by simp)) hrx sx st hs hp
      · exact merge3_sound cs N A X Y Z W ea em eb (by omega) (by omega) hN hb hrx hry sx sy st hs hp fun A' X' Y' Z' W' a' m' b' hl => ih _ (by omega) A' X' Y' Z' W' a' m' b' rfl
end Go.Srt

/- The stable sort, walked: at whatever length. -/
namespace Go.Srt
open Go.Ab Go.Proofs Go.Hy Go.Cal
set_option linter.unusedVariables false
set_option linter.unusedSimpArgs false
set_option maxRecDepth 100000
set_option maxHeartbeats 4000000


theorem stable_sound (cs : List Cal) (N : Nat) (d0 W : List Int) (hN : N = d0.length) (hb : N ≤ 1000000) (hr : Rg cs.length d0) (hst : Stc (ptV cs) d0) (hs : Sd (ptV cs) W) (hp : W.Perm d0) :
    SoundAt Tryz.prog 37 [⟨1, 41, 1, [[lCal cs]], 0⟩, ⟨2, 3, 1, (d0).map encI, 0⟩] [.sl 1 [] 1 0 N false, I N, .fn 27 [] [.ref 0 [] 1 0 0]] (.tup []) [⟨1, 41, 1, [[lCal cs]], 0⟩, ⟨2, 3, 1, (W).map encI, 0⟩] := by
  refine SoundAt.of_wpA (fn := Tryz.f37) Tryz.func37 rfl ?_
  conv => whnf
  refine Loops.inv (fun q t1 H1 => ∃ (P0 P Q : List Int), Q.length = q ∧ d0 = P0 ++ Q ∧ Full (ptV cs) 20 P0 P ∧ t1 = [.sl 1 [] 1 0 N false, I N, .fn 27 [] [.ref 0 [] 1 0 0], .junk, .junk, .junk, I 20, I P.length, I (P.length + 20 : Nat), .junk, .junk, .junk, .junk, .junk, .junk, .junk, .junk, .junk, .junk, .junk, .junk, .junk, .junk, .junk, .junk, .junk, .junk, .junk, .junk, .junk, .junk, .junk, .junk, .junk, .junk, .junk, .junk, .junk, .junk, .junk, .junk, .junk, .junk, .junk, .junk, .junk, .junk, .junk, .junk, .junk, .junk, .junk, .junk, .junk, .junk, .junk, .junk, .junk, .junk, .junk, .junk, .junk, .junk] ∧ H1 = [⟨1, 41, 1, [[lCal cs]], 0⟩, ⟨2, 3, 1, (P ++ Q).map encI, 0⟩]) d0.length ?_ ?_
  · exact ⟨[.sl 1 [] 1 0 N false, I N, .fn 27 [] [.ref 0 [] 1 0 0], .junk, .junk, .junk, I 20, I (0 : Nat), I (20 : Nat), .junk, .junk, .junk, .junk, .junk, .junk, .junk, .junk, .junk, .junk, .junk, .junk, .junk, .junk, .junk, .junk, .junk, .junk, .junk, .junk, .junk, .junk, .junk, .junk, .junk, .junk, .junk, .junk, .junk, .junk, .junk, .junk, .junk, .junk, .junk, .junk, .junk, .junk, .junk, .junk, .junk, .junk, .junk, .junk, .junk, .junk, .junk, .junk, .junk, .junk, .junk, .junk, .junk, .junk], _, Weak.cov (by (conv => whnf); (repeat (refine ⟨rfl, ?_⟩; (conv => whnf))); exact trivial), [], [], d0, rfl, rfl, .nil, rfl, rfl⟩
  · rintro q t1 H1 ⟨P0, P, Q, h1, h2, h3, rfl, rfl⟩
    have hl0 := h3.perm.length_eq
    have hl1 := congrArg List.length h2
    rw [List.length_append] at hl1
    have hst2 := hst
    rw [h2] at hst2
    have hr2 := hr
    rw [h2] at hr2
    conv => whnf
    refine ⟨fun hc => ?_, fun hc => ?_⟩
    · have hc : P.length + 20 ≤ N := by simp at hc; omega
      (conv => whnf); (try (refine ⟨(rfl : (_ : Heap) = _), ?_⟩; (conv => whnf)))
      obtain ⟨X, Z, rfl, hx⟩ : ∃ X Z, Q = X ++ Z ∧ X.length = 20 := ⟨Q.take 20, Q.drop 20, (List.take_append_drop ..).symm, by rw [List.length_take]; omega⟩
      obtain ⟨V, s1, p1⟩ := exists_sd (pt := ptV cs) X
      have hlV := p1.length_eq
      simp only [List.length_append] at hl1 h1
      refine ⟨_, _, insertion_sound cs N P X Z V rfl (by omega) (by simp only [List.length_append, List.length_cons, List.length_nil]; omega) (by omega) hr2.app.2.app.1 hst2.app.2.1.app.1 s1 p1, ?_⟩
      (conv => whnf); (try (refine ⟨(rfl : (_ : Heap) = _), ?_⟩; (conv => whnf)))
      have e1 : P ++ (V ++ Z) = (P ++ V) ++ Z := by simp
      have w1 : IntKind.i64.wrap (((P.length + 20 : Nat) : Int) + 20) = (P.length + 20 + 20 : Nat) := by rw [i64_ok (by omega) (by omega)]; omega
      rw [e1, w1]
      have e2 : P.length + 20 = (P ++ V).length := by simp only [List.length_append]; omega
      refine .inl ⟨rfl, Z.length, [.sl 1 [] 1 0 N false, I N, .fn 27 [] [.ref 0 [] 1 0 0], .junk, .junk, .junk, I 20, I (P ++ V).length, I ((P ++ V).length + 20 : Nat), .junk, .junk, .junk, .junk, .junk, .junk, .junk, .junk, .junk, .junk, .junk, .junk, .junk, .junk, .junk, .junk, .junk, .junk, .junk, .junk, .junk, .junk, .junk, .junk, .junk, .junk, .junk, .junk, .junk, .junk, .junk, .junk, .junk, .junk, .junk, .junk, .junk, .junk, .junk, .junk, .junk, .junk, .junk, .junk, .junk, .junk, .junk, .junk, .junk, .junk, .junk, .junk, .junk, .junk], _, by omega, ?_, P0 ++ X, P ++ V, Z, rfl, by rw [h2]; simp, .snoc h3 (by omega) p1 s1, rfl, rfl⟩
      rw [← e2]
      exact Weak.cov (by (conv => whnf); (repeat (refine ⟨rfl, ?_⟩; (conv => whnf))); exact trivial)
    · have hc : N < P.length + 20 := by simp at hc; omega
      (conv => whnf); (try (refine ⟨(rfl : (_ : Heap) = _), ?_⟩; (conv => whnf)))
      refine .inr ⟨by simp, ?_⟩
      conv => whnf
      obtain ⟨V, s1, p1⟩ := exists_sd (pt := ptV cs) Q
      have hlV := p1.length_eq
      have e0 : P ++ Q = P ++ (Q ++ []) := by simp
      rw [e0]
      refine ⟨_, _, insertion_sound cs N P Q [] V rfl (by omega) (by simp only [List.length_append, List.length_cons, List.length_nil]; omega) (by omega) hr2.app.2 hst2.app.2.1 s1 p1, ?_⟩
      (conv => whnf); (try (refine ⟨(rfl : (_ : Heap) = _), ?_⟩; (conv => whnf)))
      have hB : Blocks (ptV cs) 20 d0 (P ++ V) := by rw [h2]; exact h3.blocks (.last (by omega) p1 s1)
      rw [List.append_nil]
      refine Loops.inv (fun q t1 H1 => ∃ (s : Nat) (d : List Int), N - s = q ∧ 0 < s ∧ s ≤ 10000000 ∧ Blocks (ptV cs) s d0 d ∧ t1 = [.sl 1 [] 1 0 N false, I N, .fn 27 [] [.ref 0 [] 1 0 0], .junk, .junk, .junk, I s, .junk, .junk, .junk, .junk, .junk, .junk, .junk, .junk, .junk, .junk, .junk, .junk, .junk, .junk, .junk, .junk, .junk, .junk, .junk, .junk, .junk, .junk, .junk, .junk, .junk, .junk, .junk, .junk, .junk, .junk, .junk, .junk, .junk, .junk, .junk, .junk, .junk, .junk, .junk, .junk, .junk, .junk, .junk, .junk, .junk, .junk, .junk, .junk, .junk, .junk, .junk, .junk, .junk, .junk, .junk, .junk] ∧ H1 = [⟨1, 41, 1, [[lCal cs]], 0⟩, ⟨2, 3, 1, (d).map encI, 0⟩]) (N - 20) ?_ ?_
      · exact ⟨[.sl 1 [] 1 0 N false, I N, .fn 27 [] [.ref 0 [] 1 0 0], .junk, .junk, .junk, I (20 : Nat), .junk, .junk, .junk, .junk, .junk, .junk, .junk, .junk, .junk, .junk, .junk, .junk, .junk, .junk, .junk, .junk, .junk, .junk, .junk, .junk, .junk, .junk, .junk, .junk, .junk, .junk, .junk, .junk, .junk, .junk, .junk, .junk, .junk, .junk, .junk, .junk, .junk, .junk, .junk, .junk, .junk, .junk, .junk, .junk, .junk, .junk, .junk, .junk, .junk, .junk, .junk, .junk, .junk, .junk, .junk, .junk], _, Weak.cov (by (conv => whnf); (repeat (refine ⟨rfl, ?_⟩; (conv => whnf))); exact trivial), 20, P ++ V, rfl, by omega, by omega, hB, rfl, rfl⟩
      · clear h1 h2 h3 hl0 hl1 hst2 hr2 hc s1 p1 hlV e0 hB
        rintro q t1 H1 ⟨s, d, h1, h2, h3, h4, rfl, rfl⟩
        have hld := h4.perm.length_eq
        conv => whnf
        refine ⟨fun hc => ?_, fun hc => ?_⟩
        · have hc : s < N := by simp at hc; omega
          have w2 : IntKind.i64.wrap (2 * (s : Int)) = (2 * s : Nat) := by rw [i64_ok (by omega) (by omega)]; omega
          have w4 : IntKind.i64.wrap ((s : Int) * 2) = (2 * s : Nat) := by rw [i64_ok (by omega) (by omega)]; omega
          (conv => whnf); (try (refine ⟨(rfl : (_ : Heap) = _), ?_⟩; (conv => whnf)))
          rw [w2]
          refine Loops.inv (fun q t1 H1 => ∃ (P0 P Q0 Q : List Int), Q.length = q ∧ d0 = P0 ++ Q0 ∧ Full (ptV cs) (2 * s) P0 P ∧ Blocks (ptV cs) s Q0 Q ∧ t1 = [.sl 1 [] 1 0 N false, I N, .fn 27 [] [.ref 0 [] 1 0 0], .junk, .junk, .junk, I s, I P.length, I (P.length + 2 * s : Nat), .junk, .junk, .junk, .junk, .junk, .junk, .junk, .junk, .junk, .junk, .junk, .junk, .junk, .junk, .junk, .junk, .junk, .junk, .junk, .junk, .junk, .junk, .junk, .junk, .junk, .junk, .junk, .junk, .junk, .junk, .junk, .junk, .junk, .junk, .junk, .junk, .junk, .junk, .junk, .junk, .junk, .junk, .junk, .junk, .junk, .junk, .junk, .junk, .junk, .junk, .junk, .junk, .junk, .junk] ∧ H1 = [⟨1, 41, 1, [[lCal cs]], 0⟩, ⟨2, 3, 1, (P ++ Q).map encI, 0⟩]) d.length ?_ ?_
          · refine ⟨[.sl 1 [] 1 0 N false, I N, .fn 27 [] [.ref 0 [] 1 0 0], .junk, .junk, .junk, I s, I (0 : Nat), I (2 * s : Nat), .junk, .junk, .junk, .junk, .junk, .junk, .junk, .junk, .junk, .junk, .junk, .junk, .junk, .junk, .junk, .junk, .junk, .junk, .junk, .junk, .junk, .junk, .junk, .junk, .junk, .junk, .junk, .junk, .junk, .junk, .junk, .junk, .junk, .junk, .junk, .junk, .junk, .junk, .junk, .junk, .junk, .junk, .junk, .junk, .junk, .junk, .junk, .junk, .junk, .junk, .junk, .junk, .junk, .junk], _, Weak.cov (by (conv => whnf); (repeat (refine ⟨rfl, ?_⟩; (conv => whnf))); exact trivial), [], [], d0, d, rfl, rfl, .nil, h4, ?_, rfl⟩
            simp only [List.length_nil, Nat.zero_add]
          · rintro q t1 H1 ⟨P0, P, Q0, Q, g1, g2, g3, g4, rfl, rfl⟩
            have hl0 := g3.perm.length_eq
            have hl2 := g4.perm.length_eq
            have hl1 := congrArg List.length g2
            rw [List.length_append] at hl1
            have hst2 := hst
            rw [g2] at hst2
            have hr2 := hr
            rw [g2] at hr2
            have w3 : IntKind.i64.wrap ((P.length : Int) + (s : Int)) = (P.length + s : Nat) := by rw [i64_ok (by omega) (by omega)]; omega
            conv => whnf
            refine ⟨fun hc2 => ?_, fun hc2 => ?_⟩
            · have hc2 : P.length + 2 * s ≤ N := by simp at hc2; omega
              obtain ⟨x0, x, q0, q, rfl, rfl, lx, px, sx, hq⟩ := g4.first h2 (by omega)
              rw [List.length_append] at g1 hl2
              obtain ⟨y0, y, z0, z, rfl, rfl, ly, py, sy, hz⟩ := hq.first h2 (by omega)
              rw [List.length_append] at g1 hl2
              simp only [List.length_append] at hl1
              have hlz := hz.perm.length_eq
              have lx0 := px.length_eq
              have ly0 := py.length_eq
              obtain ⟨V, s1, p1⟩ := exists_sd (pt := ptV cs) (x ++ y)
              have hlV := p1.length_eq
              rw [List.length_append] at hlV
              have hst3 := hst2.app.2.1.app
              have st : Stb (ptV cs) x y := Stb.perm (hst3.2.2.sub (fun _ h => h) (fun _ h => List.mem_append.2 (.inl h))) px py
              (conv => whnf); (try (refine ⟨(rfl : (_ : Heap) = _), ?_⟩; (conv => whnf)))
              rw [w3]
              refine ⟨_, _, symMerge_sound cs N (by omega) _ P x y z V P.length (P.length + s) (P.length + 2 * s) rfl rfl (by omega) (by omega) (by omega) (by omega) (by simp only [List.length_append, List.length_cons, List.length_nil]; omega) (hr2.app.2.app.1.perm px) (hr2.app.2.app.2.app.1.perm py) sx sy st s1 p1, ?_⟩
              (conv => whnf); (try (refine ⟨(rfl : (_ : Heap) = _), ?_⟩; (conv => whnf)))
              have w5 : IntKind.i64.wrap (((P.length + 2 * s : Nat) : Int) + ((2 * s : Nat) : Int)) = (P.length + 2 * s + 2 * s : Nat) := by rw [i64_ok (by omega) (by omega)]; omega
              rw [w2, w5]
              have e1 : P ++ (V ++ z) = (P ++ V) ++ z := by simp
              rw [e1]
              have e2 : P.length + 2 * s = (P ++ V).length := by simp only [List.length_append]; omega
              refine .inl ⟨rfl, z.length, [.sl 1 [] 1 0 N false, I N, .fn 27 [] [.ref 0 [] 1 0 0], .junk, .junk, .junk, I s, I (P ++ V).length, I ((P ++ V).length + 2 * s : Nat), .junk, .junk, .junk, .junk, .junk, .junk, .junk, .junk, .junk, .junk, .junk, .junk, .junk, .junk, .junk, .junk, .junk, .junk, .junk, .junk, .junk, .junk, .junk, .junk, .junk, .junk, .junk, .junk, .junk, .junk, .junk, .junk, .junk, .junk, .junk, .junk, .junk, .junk, .junk, .junk, .junk, .junk, .junk, .junk, .junk, .junk, .junk, .junk, .junk, .junk, .junk, .junk, .junk, .junk], _, by omega, ?_, P0 ++ (x0 ++ y0), P ++ V, z0, z, rfl, by rw [g2]; simp, .snoc g3 (by omega) (p1.trans (px.append py)) s1, hz, rfl, rfl⟩
              rw [← e2]
              exact Weak.cov (by (conv => whnf); (repeat (refine ⟨rfl, ?_⟩; (conv => whnf))); exact trivial)
            · have hc2 : N < P.length + 2 * s := by simp at hc2; omega
              (conv => whnf); (try (refine ⟨(rfl : (_ : Heap) = _), ?_⟩; (conv => whnf)))
              refine .inr ⟨by simp, ?_⟩
              conv => whnf
              rw [w3]
              refine ⟨fun hm => ?_, fun hm => ?_⟩
              · have hm : P.length + s < N := by simp at hm; omega
                obtain ⟨x0, x, q0, q, rfl, rfl, lx, px, sx, hq⟩ := g4.first h2 (by omega)
                rw [List.length_append] at g1 hl2
                simp only [List.length_append] at hl1
                have hlq := hq.perm.length_eq
                have lx0 := px.length_eq
                have sq := hq.only (by omega)
                obtain ⟨V, s1, p1⟩ := exists_sd (pt := ptV cs) (x ++ q)
                have hlV := p1.length_eq
                rw [List.length_append] at hlV
                have hst3 := hst2.app.2.1.app
                have st : Stb (ptV cs) x q := Stb.perm hst3.2.2 px hq.perm
                have e0 : P ++ (x ++ q) = P ++ (x ++ (q ++ [])) := by simp
                (conv => whnf); (try (refine ⟨(rfl : (_ : Heap) = _), ?_⟩; (conv => whnf)))
                rw [e0]
                refine ⟨_, _, symMerge_sound cs N (by omega) _ P x q [] V P.length (P.length + s) N rfl rfl (by omega) (by omega) (by omega) (by omega) (by simp only [List.length_append, List.length_cons, List.length_nil]; omega) (hr2.app.2.app.1.perm px) (hr2.app.2.app.2.perm hq.perm) sx sq st s1 p1, ?_⟩
                (conv => whnf); (try (refine ⟨(rfl : (_ : Heap) = _), ?_⟩; (conv => whnf)))
                rw [List.append_nil, w4]
                refine .inl ⟨rfl, N - 2 * s, [.sl 1 [] 1 0 N false, I N, .fn 27 [] [.ref 0 [] 1 0 0], .junk, .junk, .junk, I (2 * s : Nat), .junk, .junk, .junk, .junk, .junk, .junk, .junk, .junk, .junk, .junk, .junk, .junk, .junk, .junk, .junk, .junk, .junk, .junk, .junk, .junk, .junk, .junk, .junk, .junk, .junk, .junk, .junk, .junk, .junk, .junk, .junk, .junk, .junk, .junk, .junk, .junk, .junk, .junk, .junk, .junk, .junk, .junk, .junk, .junk, .junk, .junk, .junk, .junk, .junk, .junk, .junk, .junk, .junk, .junk, .junk, .junk], _, by omega, Weak.cov (by (conv => whnf); (repeat (refine ⟨rfl, ?_⟩; (conv => whnf))); exact trivial), 2 * s, P ++ V, rfl, by omega, by omega, ?_, rfl, rfl⟩
                rw [g2]
                exact g3.blocks (.last (by omega) (p1.trans (px.append hq.perm)) s1)
              · have hm : N ≤ P.length + s := by simp at hm; omega
                (conv => whnf); (try (refine ⟨(rfl : (_ : Heap) = _), ?_⟩; (conv => whnf)))
                rw [w4]
                refine .inl ⟨rfl, N - 2 * s, [.sl 1 [] 1 0 N false, I N, .fn 27 [] [.ref 0 [] 1 0 0], .junk, .junk, .junk, I (2 * s : Nat), .junk, .junk, .junk, .junk, .junk, .junk, .junk, .junk, .junk, .junk, .junk, .junk, .junk, .junk, .junk, .junk, .junk, .junk, .junk, .junk, .junk, .junk, .junk, .junk, .junk, .junk, .junk, .junk, .junk, .junk, .junk, .junk, .junk, .junk, .junk, .junk, .junk, .junk, .junk, .junk, .junk, .junk, .junk, .junk, .junk, .junk, .junk, .junk, .junk, .junk, .junk, .junk, .junk, .junk, .junk, .junk], _, by omega, Weak.cov (by (conv => whnf); (repeat (refine ⟨rfl, ?_⟩; (conv => whnf))); exact trivial), 2 * s, P ++ Q, rfl, by omega, by omega, ?_, rfl, rfl⟩
                rw [g2]
                exact g3.blocks (.last (by omega) g4.perm (g4.only (by omega)))
        · have hc : N ≤ s := by simp at hc; omega
          obtain rfl : d = W := Sd.ext (h4.only (by omega)) hs (h4.perm.trans hp.symm)
          (conv => whnf); (try (refine ⟨(rfl : (_ : Heap) = _), ?_⟩; (conv => whnf)))
          refine .inr ⟨by simp, ?_⟩
          conv => whnf
          exact ⟨.inr rfl, _, .refl _, rfl, rfl⟩

theorem sort_sound (cs : List Cal) (N : Nat) (d0 W : List Int) (hN : N = d0.length) (hb : N ≤ 1000000) (hr : Rg cs.length d0) (hst : Stc (ptV cs) d0) (hs : Sd (ptV cs) W) (hp : W.Perm d0) :
    SoundAt Tryz.prog 26 [⟨1, 41, 1, [[lCal cs]], 0⟩, ⟨2, 3, 1, (d0).map encI, 0⟩] [.sl 1 [] 1 0 N false, .fn 27 [] [.ref 0 [] 1 0 0]] (.tup []) [⟨1, 41, 1, [[lCal cs]], 0⟩, ⟨2, 3, 1, (W).map encI, 0⟩] := by
  refine SoundAt.of_wpA (fn := Tryz.f26) Tryz.func26 rfl ?_
  conv => whnf
  refine ⟨_, _, stable_sound cs N d0 W hN hb hr hst hs hp, ?_⟩
  (conv => whnf); (try (refine ⟨(rfl : (_ : Heap) = _), ?_⟩; (conv => whnf)))
  exact ⟨.inr rfl, _, .refl _, rfl, rfl⟩
end Go.Srt

/- Layer 10 (calls): the order of calls, walked. -/
namespace Go.Srt
open Go.Ab Go.Proofs Go.Hy Go.Cal
set_option linter.unusedVariables false
set_option linter.unusedSimpArgs false
set_option maxRecDepth 100000
set_option maxHeartbeats 4000000

/-- The numbers of the calls that have taken effect, among the first so many. -/
def idx (cs : List Cal) : Nat → List Int
  | 0 => []
  | k + 1 => if ptV cs k = -1 then idx cs k else idx cs k ++ [(k : Int)]

theorem idx_mem {cs : List Cal} : ∀ {k : Nat} {x : Int}, x ∈ idx cs k → 0 ≤ x ∧ x < k ∧ ptV cs x ≠ -1
  | k + 1, x, h => by
    simp only [idx] at h
    split at h
    · obtain ⟨h1, h2, h3⟩ := idx_mem h
      exact ⟨h1, by omega, h3⟩
    · rename_i hp
      rcases List.mem_append.1 h with h | h
      · obtain ⟨h1, h2, h3⟩ := idx_mem h
        exact ⟨h1, by omega, h3⟩
      · obtain rfl := List.mem_singleton.1 h
        exact ⟨by omega, by omega, hp⟩
theorem idx_asc {cs : List Cal} : ∀ (k : Nat), (idx cs k).Pairwise (· < ·)
  | 0 => .nil
  | k + 1 => by
    simp only [idx]
    split
    · exact idx_asc k
    · exact List.pairwise_append.2 ⟨idx_asc k, by simp, fun x hx y hy => by obtain rfl := List.mem_singleton.1 hy; exact (idx_mem hx).2.1⟩
theorem idx_stc (cs : List Cal) (k : Nat) : Stc (ptV cs) (idx cs k) := (idx_asc (cs := cs) k).imp (R := (· < ·)) (S := fun x y => ptV cs x = ptV cs y → x ≤ y) fun h _ => Int.le_of_lt h
theorem idx_len {cs : List Cal} : ∀ (k : Nat), (idx cs k).length ≤ k
  | 0 => Nat.le_refl _
  | k + 1 => by
    simp only [idx]
    have := idx_len (cs := cs) k
    split
    · omega
    · simp; omega
theorem idx_rg {cs : List Cal} {k : Nat} (hk : k ≤ cs.length) : Rg cs.length (idx cs k) := fun x hx => by have := idx_mem hx; omega

/-- The order in which calls take effect. -/
noncomputable def ordV (cs : List Cal) : List Int := Classical.choose (exists_sd (pt := ptV cs) (idx cs cs.length))
theorem ordV_sd (cs : List Cal) : Sd (ptV cs) (ordV cs) := (Classical.choose_spec (exists_sd (pt := ptV cs) (idx cs cs.length))).1
theorem ordV_perm (cs : List Cal) : (ordV cs).Perm (idx cs cs.length) := (Classical.choose_spec (exists_sd (pt := ptV cs) (idx cs cs.length))).2

theorem encI_own (l : List Int) : ∀ r ∈ l.map encI, ∀ c ∈ r, noOwn c = true := by
  intro r hr c hc
  obtain ⟨n, _, rfl⟩ := List.mem_map.1 hr
  simp [encI] at hc
  subst hc; rfl
theorem encI_own' (l : List Int) : (l.map encI).all (·.all noOwn) = true := by
  simp only [List.all_eq_true]
  exact encI_own l


theorem order_sound (cs : List Cal) (hb : cs.length ≤ 1000000) : SoundAt Tryz.prog 14 [] [lCal cs] (lI (ordV cs)) [] := by
  have hcm : (cs.map encCal).length = cs.length := List.length_map ..
  refine SoundAt.of_wpA1 (fn := Tryz.f14) Tryz.func14 rfl ?_
  conv => whnf
  rw [hcm]
  refine Loops.inv (fun q t1 H1 => ∃ (k : Nat), k + q = cs.length ∧ ((idx cs k = [] ∧ t1 = [lCal cs, .ref 0 [] 1 0 0, .lst 1 0 [], .lst 1 0 [], .junk, .junk, lCal cs, I cs.length, I k, .junk, .junk, .junk, .junk, .junk, .junk, .junk, .junk, .junk, .junk, .junk, .junk, .junk, .junk, .junk, .junk] ∧ H1 = [⟨1, 41, 1, [[lCal cs]], 0⟩]) ∨ (idx cs k ≠ [] ∧ t1 = [lCal cs, .ref 0 [] 1 0 0, .lst 1 0 [], .sl 1 [] 1 0 (idx cs k).length false, .junk, .junk, lCal cs, I cs.length, I k, .junk, .junk, .junk, .junk, .junk, .junk, .junk, .junk, .junk, .junk, .junk, .junk, .junk, .junk, .junk, .junk] ∧ H1 = [⟨1, 41, 1, [[lCal cs]], 0⟩, ⟨2, 3, 1, (idx cs k).map encI, 0⟩]))) cs.length ?_ ?_
  · exact ⟨[lCal cs, .ref 0 [] 1 0 0, .lst 1 0 [], .lst 1 0 [], .junk, .junk, lCal cs, I cs.length, I (0 : Nat), .junk, .junk, .junk, .junk, .junk, .junk, .junk, .junk, .junk, .junk, .junk, .junk, .junk, .junk, .junk, .junk], _, Weak.cov (by (conv => whnf); (repeat (refine ⟨rfl, ?_⟩; (conv => whnf))); exact trivial), 0, by omega, .inl ⟨rfl, rfl, rfl⟩⟩
  · rintro q t1 H1 ⟨k, h1, ⟨h2, rfl, rfl⟩ | ⟨h2, rfl, rfl⟩⟩
    · conv => whnf
      refine ⟨fun hc => ?_, fun hc => ?_⟩
      · have hk : k < cs.length := by simp at hc; omega
        have hg : (cs.map encCal)[k]? = some (encCal cs[k]) := by rw [List.getElem?_map, List.getElem?_eq_getElem hk]; rfl
        have hp : ptV cs k = cs[k].point := by unfold ptV; rw [Int.toNat_natCast, List.getElem?_eq_getElem hk]; rfl
        (conv => whnf); (try (refine ⟨(rfl : (_ : Heap) = _), ?_⟩; (conv => whnf)))
        refine ⟨by omega, _, by rw [toNat_cast]; exact hg, ?_⟩
        (conv => whnf); (try (refine ⟨(rfl : (_ : Heap) = _), ?_⟩; (conv => whnf)))
        have w1 : IntKind.i64.wrap ((k : Int) + 1) = (k + 1 : Nat) := i64_nat (by omega)
        refine ⟨fun h3 => ?_, fun h3 => ?_⟩
        · have h3 : ptV cs k ≠ -1 := by rw [hp]; simpa using h3
          have e : idx cs (k + 1) = [(k : Int)] := by simp only [idx]; rw [if_neg h3, h2]; rfl
          (conv => whnf); (try (refine ⟨(rfl : (_ : Heap) = _), ?_⟩; (conv => whnf)))
          refine .inr ⟨.inl rfl, Nat.le_of_ble_eq_true rfl, Nat.le_of_ble_eq_true rfl, ?_⟩
          (conv => whnf); (try (refine ⟨(rfl : (_ : Heap) = _), ?_⟩; (conv => whnf)))
          rw [w1]
          refine .inl ⟨rfl, q - 1, [lCal cs, .ref 0 [] 1 0 0, .lst 1 0 [], .sl 1 [] 1 0 1 false, .junk, .junk, lCal cs, I cs.length, I (k + 1 : Nat), .junk, .junk, .junk, .junk, .junk, .junk, .junk, .junk, .junk, .junk, .junk, .junk, .junk, .junk, .junk, .junk], [⟨1, 41, 1, [[lCal cs]], 0⟩, ⟨2, 3, 1, ([(k : Int)]).map encI, 0⟩], by omega, ?_, k + 1, by omega, .inr ⟨by rw [e]; simp, by rw [e]; rfl, by rw [e]⟩⟩
          exact Weak.ren [0, 2] [0, 1, 2, 3, 6, 7, 8] _ _ rfl rfl rfl rfl
        · have h3 : ptV cs k = -1 := by rw [hp]; simpa using h3
          have e : idx cs (k + 1) = [] := by simp only [idx]; rw [if_pos h3, h2]
          (conv => whnf); (try (refine ⟨(rfl : (_ : Heap) = _), ?_⟩; (conv => whnf)))
          rw [w1]
          refine .inl ⟨rfl, q - 1, [lCal cs, .ref 0 [] 1 0 0, .lst 1 0 [], .lst 1 0 [], .junk, .junk, lCal cs, I cs.length, I (k + 1 : Nat), .junk, .junk, .junk, .junk, .junk, .junk, .junk, .junk, .junk, .junk, .junk, .junk, .junk, .junk, .junk, .junk], [⟨1, 41, 1, [[lCal cs]], 0⟩], by omega, ?_, k + 1, by omega, .inl ⟨e, rfl, rfl⟩⟩
          exact Weak.covD 1 (by (conv => whnf); (repeat (refine ⟨rfl, ?_⟩; (conv => whnf))); exact trivial) rfl rfl rfl rfl rfl
      · have hk : k = cs.length := by simp at hc; omega
        subst hk
        have e : ordV cs = [] := by have := ordV_perm cs; rw [h2] at this; exact List.perm_nil.1 this
        (conv => whnf); (try (refine ⟨(rfl : (_ : Heap) = _), ?_⟩; (conv => whnf)))
        refine .inr ⟨by simp, ?_⟩
        conv => whnf
        refine ⟨_, _, sort0_sound _, ?_⟩
        (conv => whnf); (try (refine ⟨(rfl : (_ : Heap) = _), ?_⟩; (conv => whnf)))
        rw [e]
        exact ⟨.inl rfl, _, Weak.cell 2 rfl (WC.nil 0 1), rfl⟩
    · conv => whnf
      refine ⟨fun hc => ?_, fun hc => ?_⟩
      · have hk : k < cs.length := by simp at hc; omega
        have hg : (cs.map encCal)[k]? = some (encCal cs[k]) := by rw [List.getElem?_map, List.getElem?_eq_getElem hk]; rfl
        have hp : ptV cs k = cs[k].point := by unfold ptV; rw [Int.toNat_natCast, List.getElem?_eq_getElem hk]; rfl
        have hl := idx_len (cs := cs) k
        (conv => whnf); (try (refine ⟨(rfl : (_ : Heap) = _), ?_⟩; (conv => whnf)))
        refine ⟨by omega, _, by rw [toNat_cast]; exact hg, ?_⟩
        (conv => whnf); (try (refine ⟨(rfl : (_ : Heap) = _), ?_⟩; (conv => whnf)))
        have w1 : IntKind.i64.wrap ((k : Int) + 1) = (k + 1 : Nat) := i64_nat (by omega)
        refine ⟨fun h3 => ?_, fun h3 => ?_⟩
        · have h3 : ptV cs k ≠ -1 := by rw [hp]; simpa using h3
          have e : idx cs (k + 1) = idx cs k ++ [(k : Int)] := by simp only [idx]; rw [if_neg h3]
          have el : (idx cs (k + 1)).length = (idx cs k).length + 1 := by rw [e]; simp
          (conv => whnf); (try (refine ⟨(rfl : (_ : Heap) = _), ?_⟩; (conv => whnf)))
          refine ⟨List.length_map .., encI_own' _, by simp [maxLen]; omega, by show ((idx cs k).length + (0 + 1)) * 8 ≤ _; omega, ?_⟩
          (conv => whnf); (try (refine ⟨(rfl : (_ : Heap) = _), ?_⟩; (conv => whnf)))
          rw [w1]
          have em : (idx cs (k + 1)).map encI = (idx cs k).map encI ++ [[I k]] := by rw [e]; simp [encI]
          refine .inl ⟨rfl, q - 1, [lCal cs, .ref 0 [] 1 0 0, .lst 1 0 [], .sl 1 [] 1 0 ((idx cs k).length + 1) false, .junk, .junk, lCal cs, I cs.length, I (k + 1 : Nat), .junk, .junk, .junk, .junk, .junk, .junk, .junk, .junk, .junk, .junk, .junk, .junk, .junk, .junk, .junk, .junk], [⟨1, 41, 1, [[lCal cs]], 0⟩, ⟨2, 3, 1, (idx cs k).map encI ++ [[I k]], 0⟩], by omega, ?_, k + 1, by omega, .inr ⟨by rw [e]; simp, by rw [el], by rw [em]⟩⟩
          exact Weak.ren [0, 3] [0, 1, 2, 3, 6, 7, 8] _ _ rfl rfl rfl rfl
        · have h3 : ptV cs k = -1 := by rw [hp]; simpa using h3
          have e : idx cs (k + 1) = idx cs k := by simp only [idx]; rw [if_pos h3]
          (conv => whnf); (try (refine ⟨(rfl : (_ : Heap) = _), ?_⟩; (conv => whnf)))
          rw [w1]
          refine .inl ⟨rfl, q - 1, [lCal cs, .ref 0 [] 1 0 0, .lst 1 0 [], .sl 1 [] 1 0 (idx cs k).length false, .junk, .junk, lCal cs, I cs.length, I (k + 1 : Nat), .junk, .junk, .junk, .junk, .junk, .junk, .junk, .junk, .junk, .junk, .junk, .junk, .junk, .junk, .junk, .junk], [⟨1, 41, 1, [[lCal cs]], 0⟩, ⟨2, 3, 1, (idx cs k).map encI, 0⟩], by omega, ?_, k + 1, by omega, .inr ⟨by rw [e]; exact h2, by rw [e], by rw [e]⟩⟩
          exact Weak.covD 2 (by (conv => whnf); (repeat (refine ⟨rfl, ?_⟩; (conv => whnf))); exact trivial) rfl rfl rfl rfl rfl
      · have hk : k = cs.length := by simp at hc; omega
        subst hk
        have hl := idx_len (cs := cs) cs.length
        (conv => whnf); (try (refine ⟨(rfl : (_ : Heap) = _), ?_⟩; (conv => whnf)))
        refine .inr ⟨by simp, ?_⟩
        conv => whnf
        refine ⟨_, _, sort_sound cs _ (idx cs cs.length) (ordV cs) rfl (by omega) (idx_rg (Nat.le_refl _)) (idx_stc ..) (ordV_sd cs) (ordV_perm cs), ?_⟩
        (conv => whnf); (try (refine ⟨(rfl : (_ : Heap) = _), ?_⟩; (conv => whnf)))
        exact ⟨.inl rfl, _, Weak.freezeA 2 rfl rfl (by have := (ordV_perm cs).length_eq; simp; omega) (encI_own _), rfl⟩
end Go.Srt

/- Layer 10 (calls): the document's order of calls, walked. -/
namespace Go.Srt
open Go.Ab Go.Proofs Go.Hy Go.Cal
set_option linter.unusedVariables false
set_option linter.unusedSimpArgs false
set_option maxRecDepth 100000
set_option maxHeartbeats 4000000


theorem encI_own2 (l : List Int) (x : Int) : (l.map encI ++ [[I x]]).all (·.all noOwn) = true := by
  have := encI_own' (l ++ [x])
  simpa [encI] using this

/-- What is written so far, when a number is put into a sorted row. -/
def Mid (pt : Int → Int) (x : Int) (L1 L2 M : List Int) (put : Bool) : Prop :=
  (put = false ∧ M = L1 ∧ ∀ y ∈ L1, pt y ≤ pt x) ∨ (put = true ∧ ∃ U V, L1 = U ++ V ∧ M = U ++ x :: V ∧ (∀ y ∈ U, pt y ≤ pt x) ∧ ∀ v ∈ V ++ L2, pt x < pt v)
theorem Mid.len {pt : Int → Int} {x : Int} {L1 L2 M : List Int} {put : Bool} (h : Mid pt x L1 L2 M put) : M.length ≤ L1.length + 1 ∧ L1.length ≤ M.length := by
  rcases h with ⟨_, rfl, _⟩ | ⟨_, U, V, rfl, rfl, _⟩
  · omega
  · simp; omega
theorem Mid.pass {pt : Int → Int} {x y : Int} {L1 L2 M : List Int} {put : Bool} (h : Mid pt x L1 (y :: L2) M put) (hy : put = true ∨ pt y ≤ pt x) : Mid pt x (L1 ++ [y]) L2 (M ++ [y]) put := by
  rcases h with ⟨rfl, rfl, h⟩ | ⟨rfl, U, V, rfl, rfl, h1, h2⟩
  · refine .inl ⟨rfl, rfl, fun z hz => ?_⟩
    rcases List.mem_append.1 hz with hz | hz
    · exact h z hz
    · obtain rfl := List.mem_singleton.1 hz
      rcases hy with hy | hy
      · cases hy
      · exact hy
  · exact .inr ⟨rfl, U, V ++ [y], by simp, by simp, h1, fun v hv => h2 v (by simpa using hv)⟩
theorem Mid.put {pt : Int → Int} {x y : Int} {L1 L2 M : List Int} (h : Mid pt x L1 (y :: L2) M false) (hy : pt x < pt y) (hs : Sd pt (L1 ++ y :: L2)) : Mid pt x (L1 ++ [y]) L2 (M ++ [x] ++ [y]) true := by
  rcases h with ⟨-, rfl, h⟩ | ⟨h, _⟩
  · refine .inr ⟨rfl, M, [y], rfl, by simp, h, fun v hv => ?_⟩
    rcases List.mem_cons.1 hv with rfl | hv
    · exact hy
    · have := ((List.pairwise_cons.1 (List.pairwise_append.1 hs).2.1).1 v hv).le
      omega
  · cases h
theorem Mid.last {pt : Int → Int} {x : Int} {L M : List Int} {put : Bool} (h : Mid pt x L [] M put) (hs : Sd pt L) (hx : ∀ y ∈ L, y < x) : Sd pt (if put then M else M ++ [x]) ∧ (if put then M else M ++ [x]).Perm (L ++ [x]) := by
  rcases h with ⟨rfl, rfl, h⟩ | ⟨rfl, U, V, rfl, rfl, h1, h2⟩
  · refine ⟨List.pairwise_append.2 ⟨hs, by simp, fun y hy z hz => ?_⟩, .refl _⟩
    obtain rfl := List.mem_singleton.1 hz
    have := h y hy
    have := hx y hy
    unfold Le; omega
  · refine ⟨ins_ok hs (fun v hv => h2 v (by simpa using hv)) fun y hy => ?_, ?_⟩
    · have := h1 y hy
      have := hx y (by simp [hy])
      unfold Le; omega
    · refine List.perm_middle.trans ?_
      exact (List.perm_append_comm (l₁ := [x]) (l₂ := U ++ V))

theorem refOrder_sound (cs : List Cal) (hb : cs.length ≤ 1000000) : SoundAt Tryz.prog 19 [] [lCal cs] (lI (ordV cs)) [] := by
  have hcm : (cs.map encCal).length = cs.length := List.length_map ..
  refine SoundAt.of_wpA1 (fn := Tryz.f19) Tryz.func19 rfl ?_
  conv => whnf
  refine Loops.inv (fun q t1 H1 => ∃ (k : Nat), k + q = cs.length ∧ ((idx cs k = [] ∧ t1 = [lCal cs, .junk, .lst 1 0 [], .lst 1 1 [], I k, .junk, .junk, .junk, .junk, .junk, .junk, .junk, .junk, .junk, .junk, .junk, .junk, .junk, .junk, .junk, .junk, .junk, .junk, .junk, .junk, .junk, .junk, .junk, .junk, .junk, .junk, .junk, .junk, .junk, .junk, .junk, .junk, .junk, .junk, .junk, .junk, .junk, .junk, .junk, .junk, .junk, .junk, .junk, .junk, .junk, .junk, .junk, .junk, .junk, .junk, .junk, .junk, .junk, .junk, .junk, .junk, .junk, .junk, .junk, .junk] ∧ H1 = []) ∨ (∃ L, L ≠ [] ∧ Sd (ptV cs) L ∧ L.Perm (idx cs k) ∧ t1 = [lCal cs, .junk, .lst 1 0 [], .sl 0 [] 1 0 L.length false, I k, .junk, .junk, .junk, .junk, .junk, .junk, .junk, .junk, .junk, .junk, .junk, .junk, .junk, .junk, .junk, .junk, .junk, .junk, .junk, .junk, .junk, .junk, .junk, .junk, .junk, .junk, .junk, .junk, .junk, .junk, .junk, .junk, .junk, .junk, .junk, .junk, .junk, .junk, .junk, .junk, .junk, .junk, .junk, .junk, .junk, .junk, .junk, .junk, .junk, .junk, .junk, .junk, .junk, .junk, .junk, .junk, .junk, .junk, .junk, .junk] ∧ H1 = [⟨2, 3, 1, (L).map encI, 0⟩]))) cs.length ?_ ?_
  · exact ⟨[lCal cs, .junk, .lst 1 0 [], .lst 1 1 [], I (0 : Nat), .junk, .junk, .junk, .junk, .junk, .junk, .junk, .junk, .junk, .junk, .junk, .junk, .junk, .junk, .junk, .junk, .junk, .junk, .junk, .junk, .junk, .junk, .junk, .junk, .junk, .junk, .junk, .junk, .junk, .junk, .junk, .junk, .junk, .junk, .junk, .junk, .junk, .junk, .junk, .junk, .junk, .junk, .junk, .junk, .junk, .junk, .junk, .junk, .junk, .junk, .junk, .junk, .junk, .junk, .junk, .junk, .junk, .junk, .junk, .junk], _, Weak.cov (by (conv => whnf); (repeat (refine ⟨rfl, ?_⟩; (conv => whnf))); exact trivial), 0, by omega, .inl ⟨rfl, rfl, rfl⟩⟩
  · rintro q t1 H1 ⟨k, h1, ⟨h2, rfl, rfl⟩ | ⟨L, h2, h3, h4, rfl, rfl⟩⟩
    · conv => whnf
      rw [hcm]
      refine ⟨fun hc => ?_, fun hc => ?_⟩
      · have hk : k < cs.length := by simp at hc; omega
        have hg : (cs.map encCal)[k]? = some (encCal cs[k]) := by rw [List.getElem?_map, List.getElem?_eq_getElem hk]; rfl
        have hp : ptV cs k = cs[k].point := by unfold ptV; rw [Int.toNat_natCast, List.getElem?_eq_getElem hk]; rfl
        (conv => whnf); (try (refine ⟨(rfl : (_ : Heap) = _), ?_⟩; (conv => whnf)))
        refine ⟨by omega, _, by rw [toNat_cast]; exact hg, ?_⟩
        (conv => whnf); (try (refine ⟨(rfl : (_ : Heap) = _), ?_⟩; (conv => whnf)))
        have w1 : IntKind.i64.wrap ((k : Int) + 1) = (k + 1 : Nat) := i64_nat (by omega)
        refine ⟨fun h3 => ?_, fun h3 => ?_⟩
        · have h3 : ptV cs k = -1 := by rw [hp]; simpa using h3
          have e : idx cs (k + 1) = [] := by simp only [idx]; rw [if_pos h3, h2]
          (conv => whnf); (try (refine ⟨(rfl : (_ : Heap) = _), ?_⟩; (conv => whnf)))
          rw [w1]
          refine .inl ⟨rfl, q - 1, [lCal cs, .junk, .lst 1 0 [], .lst 1 1 [], I (k + 1 : Nat), .junk, .junk, .junk, .junk, .junk, .junk, .junk, .junk, .junk, .junk, .junk, .junk, .junk, .junk, .junk, .junk, .junk, .junk, .junk, .junk, .junk, .junk, .junk, .junk, .junk, .junk, .junk, .junk, .junk, .junk, .junk, .junk, .junk, .junk, .junk, .junk, .junk, .junk, .junk, .junk, .junk, .junk, .junk, .junk, .junk, .junk, .junk, .junk, .junk, .junk, .junk, .junk, .junk, .junk, .junk, .junk, .junk, .junk, .junk, .junk], [], by omega, ?_, k + 1, by omega, .inl ⟨e, rfl, rfl⟩⟩
          exact Weak.covD 0 (by (conv => whnf); (repeat (refine ⟨rfl, ?_⟩; (conv => whnf))); exact trivial) rfl rfl rfl rfl rfl
        · have h3 : ptV cs k ≠ -1 := by rw [hp]; simpa using h3
          have e : idx cs (k + 1) = [(k : Int)] := by simp only [idx]; rw [if_neg h3, h2]; rfl
          (conv => whnf); (try (refine ⟨(rfl : (_ : Heap) = _), ?_⟩; (conv => whnf)))
          refine .ofN 1 (.step ?_)
          conv => whnf
          (repeat (first | (refine ⟨fun _ => ?_, fun h => absurd h (by decide)⟩; (conv => whnf); (try (refine ⟨(rfl : (_ : Heap) = _), ?_⟩; (conv => whnf)))) | (refine ⟨fun h => absurd h (by decide), fun _ => ?_⟩; (conv => whnf); (try (refine ⟨(rfl : (_ : Heap) = _), ?_⟩; (conv => whnf))))))
          refine .inr ⟨by simp, ?_⟩
          conv => whnf
          (repeat (first | (refine ⟨fun _ => ?_, fun h => absurd h (by decide)⟩; (conv => whnf); (try (refine ⟨(rfl : (_ : Heap) = _), ?_⟩; (conv => whnf)))) | (refine ⟨fun h => absurd h (by decide), fun _ => ?_⟩; (conv => whnf); (try (refine ⟨(rfl : (_ : Heap) = _), ?_⟩; (conv => whnf))))))
          refine .inr ⟨.inl rfl, Nat.le_of_ble_eq_true rfl, Nat.le_of_ble_eq_true rfl, ?_⟩
          (conv => whnf); (try (refine ⟨(rfl : (_ : Heap) = _), ?_⟩; (conv => whnf)))
          rw [w1]
          refine .inl ⟨rfl, q - 1, [lCal cs, .junk, .lst 1 0 [], .sl 0 [] 1 0 1 false, I (k + 1 : Nat), .junk, .junk, .junk, .junk, .junk, .junk, .junk, .junk, .junk, .junk, .junk, .junk, .junk, .junk, .junk, .junk, .junk, .junk, .junk, .junk, .junk, .junk, .junk, .junk, .junk, .junk, .junk, .junk, .junk, .junk, .junk, .junk, .junk, .junk, .junk, .junk, .junk, .junk, .junk, .junk, .junk, .junk, .junk, .junk, .junk, .junk, .junk, .junk, .junk, .junk, .junk, .junk, .junk, .junk, .junk, .junk, .junk, .junk, .junk, .junk], [⟨2, 3, 1, ([(k : Int)]).map encI, 0⟩], by omega, ?_, k + 1, by omega, .inr ⟨[(k : Int)], by simp, by unfold Sd; simp, by rw [e], rfl, rfl⟩⟩
          exact Weak.cov (by (conv => whnf); (repeat (refine ⟨rfl, ?_⟩; (conv => whnf))); exact trivial)
      · have hk : k = cs.length := by simp at hc; omega
        subst hk
        have e : ordV cs = [] := by have := ordV_perm cs; rw [h2] at this; exact List.perm_nil.1 this
        (conv => whnf); (try (refine ⟨(rfl : (_ : Heap) = _), ?_⟩; (conv => whnf)))
        refine .inr ⟨by simp, ?_⟩
        conv => whnf
        rw [e]
        exact ⟨.inl rfl, _, Weak.cell 2 rfl (WC.share 1 1 _), rfl⟩
    · have hlL : L.length ≤ k := by rw [h4.length_eq]; exact idx_len k
      have hL0 : 0 < L.length := List.length_pos_iff.2 h2
      have hr : k ≤ cs.length → Rg cs.length L := fun h => (idx_rg h).perm h4
      have hlt : ∀ y ∈ L, y < (k : Int) := fun y hy => (idx_mem (h4.mem_iff.1 hy)).2.1
      conv => whnf
      rw [hcm]
      refine ⟨fun hc => ?_, fun hc => ?_⟩
      · have hk : k < cs.length := by simp at hc; omega
        have hg : (cs.map encCal)[k]? = some (encCal cs[k]) := by rw [List.getElem?_map, List.getElem?_eq_getElem hk]; rfl
        have hp : ptV cs k = cs[k].point := by unfold ptV; rw [Int.toNat_natCast, List.getElem?_eq_getElem hk]; rfl
        have hr := hr (by omega)
        (conv => whnf); (try (refine ⟨(rfl : (_ : Heap) = _), ?_⟩; (conv => whnf)))
        refine ⟨by omega, _, by rw [toNat_cast]; exact hg, ?_⟩
        (conv => whnf); (try (refine ⟨(rfl : (_ : Heap) = _), ?_⟩; (conv => whnf)))
        have w1 : IntKind.i64.wrap ((k : Int) + 1) = (k + 1 : Nat) := i64_nat (by omega)
        refine ⟨fun h3' => ?_, fun h3' => ?_⟩
        · have h3' : ptV cs k = -1 := by rw [hp]; simpa using h3'
          have e : idx cs (k + 1) = idx cs k := by simp only [idx]; rw [if_pos h3']
          (conv => whnf); (try (refine ⟨(rfl : (_ : Heap) = _), ?_⟩; (conv => whnf)))
          rw [w1]
          refine .inl ⟨rfl, q - 1, [lCal cs, .junk, .lst 1 0 [], .sl 0 [] 1 0 L.length false, I (k + 1 : Nat), .junk, .junk, .junk, .junk, .junk, .junk, .junk, .junk, .junk, .junk, .junk, .junk, .junk, .junk, .junk, .junk, .junk, .junk, .junk, .junk, .junk, .junk, .junk, .junk, .junk, .junk, .junk, .junk, .junk, .junk, .junk, .junk, .junk, .junk, .junk, .junk, .junk, .junk, .junk, .junk, .junk, .junk, .junk, .junk, .junk, .junk, .junk, .junk, .junk, .junk, .junk, .junk, .junk, .junk, .junk, .junk, .junk, .junk, .junk, .junk], [⟨2, 3, 1, (L).map encI, 0⟩], by omega, ?_, k + 1, by omega, .inr ⟨L, h2, h3, by rw [e]; exact h4, rfl, rfl⟩⟩
          exact Weak.covD 1 (by (conv => whnf); (repeat (refine ⟨rfl, ?_⟩; (conv => whnf))); exact trivial) rfl rfl rfl rfl rfl
        · have h3' : ptV cs k ≠ -1 := by rw [hp]; simpa using h3'
          have e : idx cs (k + 1) = idx cs k ++ [(k : Int)] := by simp only [idx]; rw [if_neg h3']
          (conv => whnf); (try (refine ⟨(rfl : (_ : Heap) = _), ?_⟩; (conv => whnf)))
          refine Loops.inv (fun q t1 H1 => ∃ (j : Nat) (L1 L2 M : List Int) (put : Bool), j + q = L.length ∧ L = L1 ++ L2 ∧ L1.length = j ∧ Mid (ptV cs) k L1 L2 M put ∧
            ((M = [] ∧ t1 = [lCal cs, .junk, .lst 1 0 [], .sl 0 [] 1 0 L.length false, I k, .lst 1 1 [], Bo put, I j, .junk, .junk, .junk, .junk, .junk, .junk, .junk, .junk, .junk, .junk, .junk, .junk, .junk, .junk, .junk, .junk, .junk, .junk, .junk, .junk, .junk, .junk, .junk, .junk, .junk, .junk, .junk, .junk, .junk, .junk, .junk, .junk, .junk, .junk, .junk, .junk, .junk, .junk, .junk, .junk, .junk, .junk, .junk, .junk, .junk, .junk, .junk, .junk, .junk, .junk, .junk, .junk, .junk, .junk, .junk, .junk, .junk] ∧ H1 = [⟨2, 3, 1, (L).map encI, 0⟩]) ∨ (M ≠ [] ∧ t1 = [lCal cs, .junk, .lst 1 0 [], .sl 0 [] 1 0 L.length false, I k, .sl 1 [] 1 0 M.length false, Bo put, I j, .junk, .junk, .junk, .junk, .junk, .junk, .junk, .junk, .junk, .junk, .junk, .junk, .junk, .junk, .junk, .junk, .junk, .junk, .junk, .junk, .junk, .junk, .junk, .junk, .junk, .junk, .junk, .junk, .junk, .junk, .junk, .junk, .junk, .junk, .junk, .junk, .junk, .junk, .junk, .junk, .junk, .junk, .junk, .junk, .junk, .junk, .junk, .junk, .junk, .junk, .junk, .junk, .junk, .junk, .junk, .junk, .junk] ∧ H1 = [⟨2, 3, 1, (L).map encI, 0⟩, ⟨2, 3, 1, (M).map encI, 0⟩]))) L.length ?_ ?_
          · exact ⟨[lCal cs, .junk, .lst 1 0 [], .sl 0 [] 1 0 L.length false, I k, .lst 1 1 [], Bo false, I (0 : Nat), .junk, .junk, .junk, .junk, .junk, .junk, .junk, .junk, .junk, .junk, .junk, .junk, .junk, .junk, .junk, .junk, .junk, .junk, .junk, .junk, .junk, .junk, .junk, .junk, .junk, .junk, .junk, .junk, .junk, .junk, .junk, .junk, .junk, .junk, .junk, .junk, .junk, .junk, .junk, .junk, .junk, .junk, .junk, .junk, .junk, .junk, .junk, .junk, .junk, .junk, .junk, .junk, .junk, .junk, .junk, .junk, .junk], _, Weak.cov (by (conv => whnf); (repeat (refine ⟨rfl, ?_⟩; (conv => whnf))); exact trivial), 0, [], L, [], false, by omega, rfl, rfl, .inl ⟨rfl, rfl, by simp⟩, .inl ⟨rfl, rfl, rfl⟩⟩
          · rintro q' t1 H1 ⟨j, L1, L2, M, put, g1, rfl, g3, g4, ⟨rfl, rfl, rfl⟩ | ⟨g5, rfl, rfl⟩⟩
            · obtain ⟨rfl, rfl⟩ : put = false ∧ L1 = [] := by
                rcases g4 with ⟨h, h', -⟩ | ⟨-, U, V, -, h, -⟩
                · exact ⟨h, h'.symm⟩
                · simp at h
              obtain rfl : j = 0 := by simpa using g3.symm
              obtain ⟨y, L3, rfl⟩ : ∃ x Q, L2 = x :: Q := by cases L2 with | nil => simp at hL0 | cons x Q => exact ⟨x, Q, rfl⟩
              rw [List.nil_append] at *
              have hy := hr y (by simp)
              have hgy : (cs.map encCal)[y.toNat]? = some (encCal cs[y.toNat]) := by rw [List.getElem?_map, List.getElem?_eq_getElem hy.2]; rfl
              have hpy : ptV cs y = cs[y.toNat].point := by unfold ptV; rw [List.getElem?_eq_getElem hy.2]; rfl
              simp only [List.length_cons] at hlL hL0 g1
              conv => whnf
              refine ⟨fun hc => ?_, fun hc => absurd hc (by simp)⟩
              (conv => whnf); (try (refine ⟨(rfl : (_ : Heap) = _), ?_⟩; (conv => whnf)))
              refine ⟨⟨false, [], [], []⟩, by kernel_rfl, ?_⟩; (conv => whnf)
              refine ⟨by omega, by simp, ?_⟩
              (conv => whnf); (try (refine ⟨(rfl : (_ : Heap) = _), ?_⟩; (conv => whnf)))
              refine ⟨encI y, rfl, Nat.le_of_ble_eq_true rfl, ?_⟩
              (conv => whnf); (try (refine ⟨(rfl : (_ : Heap) = _), ?_⟩; (conv => whnf)))
              refine ⟨hy.1, _, hgy, ?_⟩
              (conv => whnf); (try (refine ⟨(rfl : (_ : Heap) = _), ?_⟩; (conv => whnf)))
              refine ⟨by omega, _, by rw [toNat_cast]; exact hg, ?_⟩
              (conv => whnf); (try (refine ⟨(rfl : (_ : Heap) = _), ?_⟩; (conv => whnf)))
              refine ⟨fun h5 => ?_, fun h5 => ?_⟩
              · have h5 : ptV cs k < ptV cs y := by rw [hp, hpy]; simpa using h5
                have g4' := g4.put h5 h3
                (conv => whnf); (try (refine ⟨(rfl : (_ : Heap) = _), ?_⟩; (conv => whnf)))
                refine .inr ⟨.inl rfl, Nat.le_of_ble_eq_true rfl, Nat.le_of_ble_eq_true rfl, ?_⟩
                (conv => whnf); (try (refine ⟨(rfl : (_ : Heap) = _), ?_⟩; (conv => whnf)))
                refine ⟨by omega, by simp, ?_⟩
                (conv => whnf); (try (refine ⟨(rfl : (_ : Heap) = _), ?_⟩; (conv => whnf)))
                refine ⟨encI y, rfl, Nat.le_of_ble_eq_true rfl, ?_⟩
                (conv => whnf); (try (refine ⟨(rfl : (_ : Heap) = _), ?_⟩; (conv => whnf)))
                refine ⟨rfl, rfl, Nat.le_of_ble_eq_true rfl, Nat.le_of_ble_eq_true rfl, ?_⟩
                (conv => whnf); (try (refine ⟨(rfl : (_ : Heap) = _), ?_⟩; (conv => whnf)))
                exact .inl ⟨rfl, L3.length, [lCal cs, .junk, .lst 1 0 [], .sl 0 [] 1 0 (y :: L3).length false, I k, .sl 1 [] 1 0 2 false, Bo true, I (1 : Nat), .junk, .junk, .junk, .junk, .junk, .junk, .junk, .junk, .junk, .junk, .junk, .junk, .junk, .junk, .junk, .junk, .junk, .junk, .junk, .junk, .junk, .junk, .junk, .junk, .junk, .junk, .junk, .junk, .junk, .junk, .junk, .junk, .junk, .junk, .junk, .junk, .junk, .junk, .junk, .junk, .junk, .junk, .junk, .junk, .junk, .junk, .junk, .junk, .junk, .junk, .junk, .junk, .junk, .junk, .junk, .junk, .junk], [⟨2, 3, 1, (y :: L3).map encI, 0⟩, ⟨2, 3, 1, ([(k : Int), y]).map encI, 0⟩], by omega, Weak.ren [0, 2] [0, 2, 3, 4, 5, 6, 7] _ _ rfl rfl rfl rfl, 1, [y], L3, _, true, by simp; omega, rfl, rfl, g4', .inr ⟨by simp, rfl, rfl⟩⟩
              · have h5 : ptV cs y ≤ ptV cs k := by rw [hp, hpy]; simpa using h5
                have g4' := g4.pass (.inr h5)
                (conv => whnf); (try (refine ⟨(rfl : (_ : Heap) = _), ?_⟩; (conv => whnf)))
                refine ⟨by omega, by simp, ?_⟩
                (conv => whnf); (try (refine ⟨(rfl : (_ : Heap) = _), ?_⟩; (conv => whnf)))
                refine ⟨encI y, rfl, Nat.le_of_ble_eq_true rfl, ?_⟩
                (conv => whnf); (try (refine ⟨(rfl : (_ : Heap) = _), ?_⟩; (conv => whnf)))
                refine .inr ⟨.inl rfl, Nat.le_of_ble_eq_true rfl, Nat.le_of_ble_eq_true rfl, ?_⟩
                (conv => whnf); (try (refine ⟨(rfl : (_ : Heap) = _), ?_⟩; (conv => whnf)))
                exact .inl ⟨rfl, L3.length, [lCal cs, .junk, .lst 1 0 [], .sl 0 [] 1 0 (y :: L3).length false, I k, .sl 1 [] 1 0 1 false, Bo false, I (1 : Nat), .junk, .junk, .junk, .junk, .junk, .junk, .junk, .junk, .junk, .junk, .junk, .junk, .junk, .junk, .junk, .junk, .junk, .junk, .junk, .junk, .junk, .junk, .junk, .junk, .junk, .junk, .junk, .junk, .junk, .junk, .junk, .junk, .junk, .junk, .junk, .junk, .junk, .junk, .junk, .junk, .junk, .junk, .junk, .junk, .junk, .junk, .junk, .junk, .junk, .junk, .junk, .junk, .junk, .junk, .junk, .junk, .junk], [⟨2, 3, 1, (y :: L3).map encI, 0⟩, ⟨2, 3, 1, ([y]).map encI, 0⟩], by omega, Weak.cov (by (conv => whnf); (repeat (refine ⟨rfl, ?_⟩; (conv => whnf))); exact trivial), 1, [y], L3, _, false, by simp; omega, rfl, rfl, g4', .inr ⟨by simp, rfl, rfl⟩⟩
            · have gl := g4.len
              simp only [List.length_append] at hlL hL0 g1
              have w2 : IntKind.i64.wrap ((j : Int) + 1) = (j + 1 : Nat) := i64_nat (by omega)
              conv => whnf
              refine ⟨fun hc => ?_, fun hc => ?_⟩
              · obtain ⟨y, L3, rfl⟩ : ∃ x Q, L2 = x :: Q := by cases L2 with | nil => simp at hc; omega | cons x Q => exact ⟨x, Q, rfl⟩
                have hy := hr y (by simp)
                have hgy : (cs.map encCal)[y.toNat]? = some (encCal cs[y.toNat]) := by rw [List.getElem?_map, List.getElem?_eq_getElem hy.2]; rfl
                have hpy : ptV cs y = cs[y.toNat].point := by unfold ptV; rw [List.getElem?_eq_getElem hy.2]; rfl
                have ej : 0 + ((j : Nat) : Int).toNat = j := by omega
                have gj := get_mid L1 y L3 g3.symm
                simp only [List.length_cons] at hlL hL0 g1
                have em : ∀ (M : List Int) (x : Int), M.map encI ++ [[I x]] = (M ++ [x]).map encI := fun M x => by simp [encI]
                cases put with
                | true =>
                  have g4' := g4.pass (.inl rfl)
                  (conv => whnf); (try (refine ⟨(rfl : (_ : Heap) = _), ?_⟩; (conv => whnf)))
                  refine ⟨⟨false, [], [], []⟩, by kernel_rfl, ?_⟩; (conv => whnf)
                  (try (repeat (first | (refine ⟨fun _ => ?_, fun h => absurd h (by decide)⟩; (conv => whnf); (try (refine ⟨(rfl : (_ : Heap) = _), ?_⟩; (conv => whnf)))) | (refine ⟨fun h => absurd h (by decide), fun _ => ?_⟩; (conv => whnf); (try (refine ⟨(rfl : (_ : Heap) = _), ?_⟩; (conv => whnf)))))))
                  refine ⟨by omega, by simp only [List.length_append, List.length_cons]; omega, ?_⟩
                  (conv => whnf); (try (refine ⟨(rfl : (_ : Heap) = _), ?_⟩; (conv => whnf)))
                  refine ⟨encI y, by rw [ej]; exact gj, Nat.le_of_ble_eq_true rfl, ?_⟩
                  (conv => whnf); (try (refine ⟨(rfl : (_ : Heap) = _), ?_⟩; (conv => whnf)))
                  refine ⟨List.length_map .., encI_own' _, by simp [maxLen]; omega, by show ((M).length + (0 + 1)) * 8 ≤ _; omega, ?_⟩
                  (conv => whnf); (try (refine ⟨(rfl : (_ : Heap) = _), ?_⟩; (conv => whnf)))
                  rw [w2, em]
                  refine .inl ⟨rfl, L3.length, [lCal cs, .junk, .lst 1 0 [], .sl 0 [] 1 0 (L1 ++ y :: L3).length false, I k, .sl 1 [] 1 0 (M.length + 1) false, Bo true, I (j + 1 : Nat), .junk, .junk, .junk, .junk, .junk, .junk, .junk, .junk, .junk, .junk, .junk, .junk, .junk, .junk, .junk, .junk, .junk, .junk, .junk, .junk, .junk, .junk, .junk, .junk, .junk, .junk, .junk, .junk, .junk, .junk, .junk, .junk, .junk, .junk, .junk, .junk, .junk, .junk, .junk, .junk, .junk, .junk, .junk, .junk, .junk, .junk, .junk, .junk, .junk, .junk, .junk, .junk, .junk, .junk, .junk, .junk, .junk], [⟨2, 3, 1, (L1 ++ y :: L3).map encI, 0⟩, ⟨2, 3, 1, (M ++ [y]).map encI, 0⟩], by omega, Weak.ren [0, 2] [0, 2, 3, 4, 5, 6, 7] _ _ rfl rfl rfl rfl, j + 1, L1 ++ [y], L3, _, true, by simp; omega, by simp, by simp; omega, g4', .inr ⟨by simp, by simp, rfl⟩⟩
                | false =>
                  (conv => whnf); (try (refine ⟨(rfl : (_ : Heap) = _), ?_⟩; (conv => whnf)))
                  refine ⟨⟨false, [], [], []⟩, by kernel_rfl, ?_⟩; (conv => whnf)
                  (try (repeat (first | (refine ⟨fun _ => ?_, fun h => absurd h (by decide)⟩; (conv => whnf); (try (refine ⟨(rfl : (_ : Heap) = _), ?_⟩; (conv => whnf)))) | (refine ⟨fun h => absurd h (by decide), fun _ => ?_⟩; (conv => whnf); (try (refine ⟨(rfl : (_ : Heap) = _), ?_⟩; (conv => whnf)))))))
                  refine ⟨by omega, by simp only [List.length_append, List.length_cons]; omega, ?_⟩
                  (conv => whnf); (try (refine ⟨(rfl : (_ : Heap) = _), ?_⟩; (conv => whnf)))
                  refine ⟨encI y, by rw [ej]; exact gj, Nat.le_of_ble_eq_true rfl, ?_⟩
                  (conv => whnf); (try (refine ⟨(rfl : (_ : Heap) = _), ?_⟩; (conv => whnf)))
                  refine ⟨hy.1, _, hgy, ?_⟩
                  (conv => whnf); (try (refine ⟨(rfl : (_ : Heap) = _), ?_⟩; (conv => whnf)))
                  refine ⟨by omega, _, by rw [toNat_cast]; exact hg, ?_⟩
                  (conv => whnf); (try (refine ⟨(rfl : (_ : Heap) = _), ?_⟩; (conv => whnf)))
                  refine ⟨fun h5 => ?_, fun h5 => ?_⟩
                  · have h5 : ptV cs k < ptV cs y := by rw [hp, hpy]; simpa using h5
                    have g4' := g4.put h5 h3
                    (conv => whnf); (try (refine ⟨(rfl : (_ : Heap) = _), ?_⟩; (conv => whnf)))
                    refine ⟨List.length_map .., encI_own' _, by simp [maxLen]; omega, by show ((M).length + (0 + 1)) * 8 ≤ _; omega, ?_⟩
                    (conv => whnf); (try (refine ⟨(rfl : (_ : Heap) = _), ?_⟩; (conv => whnf)))
                    refine ⟨by omega, by simp only [List.length_append, List.length_cons]; omega, ?_⟩
                    (conv => whnf); (try (refine ⟨(rfl : (_ : Heap) = _), ?_⟩; (conv => whnf)))
                    refine ⟨encI y, by rw [ej]; exact gj, Nat.le_of_ble_eq_true rfl, ?_⟩
                    (conv => whnf); (try (refine ⟨(rfl : (_ : Heap) = _), ?_⟩; (conv => whnf)))
                    refine ⟨by simp, encI_own2 _ _, by simp [maxLen]; omega, by show (M.length + (0 + 1) + (0 + 1)) * 8 ≤ _; omega, ?_⟩
                    (conv => whnf); (try (refine ⟨(rfl : (_ : Heap) = _), ?_⟩; (conv => whnf)))
                    rw [w2, em, em]
                    refine .inl ⟨rfl, L3.length, [lCal cs, .junk, .lst 1 0 [], .sl 0 [] 1 0 (L1 ++ y :: L3).length false, I k, .sl 1 [] 1 0 (M.length + 1 + 1) false, Bo true, I (j + 1 : Nat), .junk, .junk, .junk, .junk, .junk, .junk, .junk, .junk, .junk, .junk, .junk, .junk, .junk, .junk, .junk, .junk, .junk, .junk, .junk, .junk, .junk, .junk, .junk, .junk, .junk, .junk, .junk, .junk, .junk, .junk, .junk, .junk, .junk, .junk, .junk, .junk, .junk, .junk, .junk, .junk, .junk, .junk, .junk, .junk, .junk, .junk, .junk, .junk, .junk, .junk, .junk, .junk, .junk, .junk, .junk, .junk, .junk], [⟨2, 3, 1, (L1 ++ y :: L3).map encI, 0⟩, ⟨2, 3, 1, (M ++ [(k : Int)] ++ [y]).map encI, 0⟩], by omega, Weak.ren [0, 3] [0, 2, 3, 4, 5, 6, 7] _ _ rfl rfl rfl rfl, j + 1, L1 ++ [y], L3, _, true, by simp; omega, by simp, by simp; omega, g4', .inr ⟨by simp, by simp, rfl⟩⟩
                  · have h5 : ptV cs y ≤ ptV cs k := by rw [hp, hpy]; simpa using h5
                    have g4' := g4.pass (.inr h5)
                    (conv => whnf); (try (refine ⟨(rfl : (_ : Heap) = _), ?_⟩; (conv => whnf)))
                    refine ⟨by omega, by simp only [List.length_append, List.length_cons]; omega, ?_⟩
                    (conv => whnf); (try (refine ⟨(rfl : (_ : Heap) = _), ?_⟩; (conv => whnf)))
                    refine ⟨encI y, by rw [ej]; exact gj, Nat.le_of_ble_eq_true rfl, ?_⟩
                    (conv => whnf); (try (refine ⟨(rfl : (_ : Heap) = _), ?_⟩; (conv => whnf)))
                    refine ⟨List.length_map .., encI_own' _, by simp [maxLen]; omega, by show ((M).length + (0 + 1)) * 8 ≤ _; omega, ?_⟩
                    (conv => whnf); (try (refine ⟨(rfl : (_ : Heap) = _), ?_⟩; (conv => whnf)))
                    rw [w2, em]
                    refine .inl ⟨rfl, L3.length, [lCal cs, .junk, .lst 1 0 [], .sl 0 [] 1 0 (L1 ++ y :: L3).length false, I k, .sl 1 [] 1 0 (M.length + 1) false, Bo false, I (j + 1 : Nat), .junk, .junk, .junk, .junk, .junk, .junk, .junk, .junk, .junk, .junk, .junk, .junk, .junk, .junk, .junk, .junk, .junk, .junk, .junk, .junk, .junk, .junk, .junk, .junk, .junk, .junk, .junk, .junk, .junk, .junk, .junk, .junk, .junk, .junk, .junk, .junk, .junk, .junk, .junk, .junk, .junk, .junk, .junk, .junk, .junk, .junk, .junk, .junk, .junk, .junk, .junk, .junk, .junk, .junk, .junk, .junk, .junk], [⟨2, 3, 1, (L1 ++ y :: L3).map encI, 0⟩, ⟨2, 3, 1, (M ++ [y]).map encI, 0⟩], by omega, Weak.ren [0, 2] [0, 2, 3, 4, 5, 6, 7] _ _ rfl rfl rfl rfl, j + 1, L1 ++ [y], L3, _, false, by simp; omega, by simp, by simp; omega, g4', .inr ⟨by simp, by simp, rfl⟩⟩
              · obtain rfl : L2 = [] := List.eq_nil_of_length_eq_zero (by simp at hc; omega)
                rw [List.append_nil] at h3 h4 hlt
                have g4' := g4.last h3 hlt
                have em : ∀ (M : List Int) (x : Int), M.map encI ++ [[I x]] = (M ++ [x]).map encI := fun M x => by simp [encI]
                have hML : 0 < M.length := List.length_pos_iff.2 g5
                cases put with
                | true =>
                  (conv => whnf); (try (refine ⟨(rfl : (_ : Heap) = _), ?_⟩; (conv => whnf)))
                  refine .inr ⟨by simp, ?_⟩
                  conv => whnf
                  (try (repeat (first | (refine ⟨fun _ => ?_, fun h => absurd h (by decide)⟩; (conv => whnf); (try (refine ⟨(rfl : (_ : Heap) = _), ?_⟩; (conv => whnf)))) | (refine ⟨fun h => absurd h (by decide), fun _ => ?_⟩; (conv => whnf); (try (refine ⟨(rfl : (_ : Heap) = _), ?_⟩; (conv => whnf)))))))
                  rw [w1]
                  refine .inl ⟨rfl, q - 1, [lCal cs, .junk, .lst 1 0 [], .sl 0 [] 1 0 M.length false, I (k + 1 : Nat), .junk, .junk, .junk, .junk, .junk, .junk, .junk, .junk, .junk, .junk, .junk, .junk, .junk, .junk, .junk, .junk, .junk, .junk, .junk, .junk, .junk, .junk, .junk, .junk, .junk, .junk, .junk, .junk, .junk, .junk, .junk, .junk, .junk, .junk, .junk, .junk, .junk, .junk, .junk, .junk, .junk, .junk, .junk, .junk, .junk, .junk, .junk, .junk, .junk, .junk, .junk, .junk, .junk, .junk, .junk, .junk, .junk, .junk, .junk, .junk], [⟨2, 3, 1, (M).map encI, 0⟩], by omega, Weak.ren [1] [0, 2, 3, 4] _ _ rfl rfl rfl rfl, k + 1, by omega, .inr ⟨M, g5, g4'.1, by rw [e]; exact g4'.2.trans (h4.append_right _), rfl, rfl⟩⟩
                | false =>
                  (conv => whnf); (try (refine ⟨(rfl : (_ : Heap) = _), ?_⟩; (conv => whnf)))
                  refine .inr ⟨by simp, ?_⟩
                  conv => whnf
                  (try (repeat (first | (refine ⟨fun _ => ?_, fun h => absurd h (by decide)⟩; (conv => whnf); (try (refine ⟨(rfl : (_ : Heap) = _), ?_⟩; (conv => whnf)))) | (refine ⟨fun h => absurd h (by decide), fun _ => ?_⟩; (conv => whnf); (try (refine ⟨(rfl : (_ : Heap) = _), ?_⟩; (conv => whnf)))))))
                  refine ⟨List.length_map .., encI_own' _, by simp [maxLen]; omega, by show ((M).length + (0 + 1)) * 8 ≤ _; omega, ?_⟩
                  (conv => whnf); (try (refine ⟨(rfl : (_ : Heap) = _), ?_⟩; (conv => whnf)))
                  rw [w1, em]
                  refine .inl ⟨rfl, q - 1, [lCal cs, .junk, .lst 1 0 [], .sl 0 [] 1 0 (M.length + 1) false, I (k + 1 : Nat), .junk, .junk, .junk, .junk, .junk, .junk, .junk, .junk, .junk, .junk, .junk, .junk, .junk, .junk, .junk, .junk, .junk, .junk, .junk, .junk, .junk, .junk, .junk, .junk, .junk, .junk, .junk, .junk, .junk, .junk, .junk, .junk, .junk, .junk, .junk, .junk, .junk, .junk, .junk, .junk, .junk, .junk, .junk, .junk, .junk, .junk, .junk, .junk, .junk, .junk, .junk, .junk, .junk, .junk, .junk, .junk, .junk, .junk, .junk, .junk], [⟨2, 3, 1, (M ++ [(k : Int)]).map encI, 0⟩], by omega, Weak.ren [2] [0, 2, 3, 4] _ _ rfl rfl rfl rfl, k + 1, by omega, .inr ⟨M ++ [(k : Int)], by simp, g4'.1, by rw [e]; exact g4'.2.trans (h4.append_right _), by simp, rfl⟩⟩
      · have hk : k = cs.length := by simp at hc; omega
        subst hk
        have e : ordV cs = L := Sd.ext (ordV_sd cs) h3 ((ordV_perm cs).trans h4.symm)
        (conv => whnf); (try (refine ⟨(rfl : (_ : Heap) = _), ?_⟩; (conv => whnf)))
        refine .inr ⟨by simp, ?_⟩
        conv => whnf
        rw [e]
        exact ⟨.inl rfl, _, Weak.freezeA 2 rfl rfl (by simp) (encI_own _), rfl⟩
end Go.Srt

