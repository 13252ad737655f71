/- The stable sort, walked: the merge of rows of any length. -/
import Derived.Test.YtbndjpkncgfpiaaSrtD
namespace Go.Srt
open Go.Ab Go.Proofs Go.Hy Go.Cal
set_option linter.unusedVariables false
set_option linter.unusedSimpArgs false
set_option maxRecDepth 100000
set_option maxHeartbeats 4000000


/-- What a merge brings about. -/
def Merges (cs : List Cal) (N : Nat) (A X Y Z W : List Int) (a m b : Nat) : Prop :=
  a = A.length → m = A.length + X.length → b = A.length + X.length + Y.length → 0 < X.length → 0 < Y.length → N = (A ++ (X ++ (Y ++ Z))).length → Rg cs.length X → Rg cs.length Y → Sd (ptV cs) X → Sd (ptV cs) Y → Stb (ptV cs) X Y →
    Sd (ptV cs) W → W.Perm (X ++ Y) → SoundAt Try.prog 82 [⟨1, 22, 1, [[lCal cs]], 0⟩, ⟨2, 3, 1, (A ++ (X ++ (Y ++ Z))).map encI, 0⟩] [.sl 1 [] 1 0 N false, I a, I m, I b, .fn 36 [] [.ref 0 [] 1 0 0]] (.tup []) [⟨1, 22, 1, [[lCal cs]], 0⟩, ⟨2, 3, 1, (A ++ (W ++ Z)).map encI, 0⟩]

section
variable {P : Program} {B : Nat}
/-- Two, one behind the other: what is forgotten in between. -/
theorem cutK {x y : Code} {t : List C} {H : Heap} {R : Exit → S → Prop} (h : wpA P B x t H fun e t1 H1 => (e = .normal ∧ ∃ t2 H2, Weak B ⟨t1, H1⟩ ⟨t2, H2⟩ ∧ RunR P B y ⟨t2, H2⟩ R) ∨ (e ≠ .normal ∧ R e ⟨t1, H1⟩)) : RunR P B (.seq x y) ⟨t, H⟩ R := by
  refine .seq ((wpA_spec h).post fun ex s1 h1 => ?_)
  rcases h1 with ⟨rfl, t2, H2, hw, hr⟩ | ⟨hne, hr⟩
  · exact ⟨_, hw, hr⟩
  · refine ⟨s1, .refl s1, ?_⟩
    cases ex with
    | normal => exact absurd rfl hne
    | _ => exact hr
theorem SoundAt.of_cut {f : FuncId} {fn : Func} {c : Code} {H H' : Heap} {args : List C} {r : C} (hf : P.funcs[f]? = some fn) (hb : fn.body = some c)
    (h : RunR P H.length c ⟨entry fn args, H⟩ fun ex s => (ex = .ret ∨ ex = .normal) ∧ s.H = H' ∧ resC P fn s = some r) : SoundAt P f H args r H' :=
  SoundR.at (SoundR.of_run hf hb (h.mono fun ex s1 ⟨hex, h2, h3⟩ => ⟨hex, s1, r, .refl _, h3, rfl, h2⟩))
end

/-- A part of code: what stands behind so many. -/
def behind : Nat → Code → Code
  | 0, c => c
  | n + 1, .seq _ y => behind n y
  | _, c => c


theorem tail3 (cs : List Cal) (N a m b mid t e : Nat) (A X Y Z W : List Int) (ea : mid = A.length) (em : e = mid + X.length) (eb : b = e + Y.length)
    (hm : 0 < X.length → 0 < Y.length → SoundAt Try.prog 82 [⟨1, 22, 1, [[lCal cs]], 0⟩, ⟨2, 3, 1, (A ++ (X ++ (Y ++ Z))).map encI, 0⟩] [.sl 1 [] 1 0 N false, I mid, I e, I b, .fn 36 [] [.ref 0 [] 1 0 0]] (.tup []) [⟨1, 22, 1, [[lCal cs]], 0⟩, ⟨2, 3, 1, (A ++ (W ++ Z)).map encI, 0⟩]) (h0 : ¬ (0 < X.length ∧ 0 < Y.length) → W = X ++ Y) :
    RunR Try.prog 2 (behind 11 ((Try.f82.body).getD .skip)) ⟨[.sl 1 [] 1 0 N false, I a, I m, I b, .fn 36 [] [.ref 0 [] 1 0 0], .junk, .junk, .junk, .junk, .junk, .junk, .junk, .junk, .junk, .junk, .junk, .junk, .junk, I mid, .junk, I t, .junk, .junk, .junk, I e, .junk, .junk, .junk, .junk, .junk, .junk, .junk, .junk, .junk, .junk, .junk, .junk, .junk, .junk, .junk, .junk, .junk, .junk, .junk, .junk, .junk, .junk, .junk, .junk, .junk, .junk, .junk, .junk, .junk, .junk, .junk, .junk, .junk, .junk, .junk, .junk, .junk, .junk, .junk, .junk, .junk, .junk, .junk, .junk, .junk, .junk, .junk, .junk, .junk, .junk, .junk, .junk, .junk, .junk, .junk, .junk, .junk, .junk, .junk, .junk, .junk, .junk, .junk, .junk, .junk, .junk, .junk, .junk, .junk, .junk, .junk, .junk, .junk, .junk, .junk, .junk, .junk, .junk, .junk, .junk, .junk, .junk, .junk, .junk, .junk, .junk, .junk, .junk, .junk, .junk, .junk, .junk, .junk, .junk, .junk, .junk, .junk, .junk, .junk, .junk, .junk, .junk, .junk, .junk, .junk, .junk, .junk, .junk, .junk, .junk, .junk, .junk, .junk, .junk, .junk, .junk, .junk, .junk, .junk, .junk, .junk, .junk, .junk, .junk, .junk, .junk, .junk, .junk, .junk, .junk, .junk, .junk, .junk, .junk, .junk, .junk, .junk, .junk, .junk, .junk, .junk, .junk, .junk, .junk, .junk, .junk, .junk, .junk, .junk, .junk, .junk, .junk, .junk, .junk, .junk, .junk, .junk, .junk, .junk, .junk, .junk, .junk, .junk, .junk, .junk, .junk, .junk, .junk, .junk, .junk, .junk, .junk, .junk, .junk, .junk, .junk, .junk, .junk, .junk, .junk, .junk, .junk, .junk, .junk, .junk, .junk, .junk, .junk, .junk, .junk, .junk, .junk, .junk, .junk, .junk], [⟨1, 22, 1, [[lCal cs]], 0⟩, ⟨2, 3, 1, (A ++ (X ++ (Y ++ Z))).map encI, 0⟩]⟩ fun ex s => (ex = .ret ∨ ex = .normal) ∧ s.H = [⟨1, 22, 1, [[lCal cs]], 0⟩, ⟨2, 3, 1, (A ++ (W ++ Z)).map encI, 0⟩] ∧ resC Try.prog Try.f82 s = some (.tup []) := by
  refine wpA_spec (K := fun ex t H => (ex = .ret ∨ ex = .normal) ∧ H = [⟨1, 22, 1, [[lCal cs]], 0⟩, ⟨2, 3, 1, (A ++ (W ++ Z)).map encI, 0⟩] ∧ resC Try.prog Try.f82 ⟨t, H⟩ = some (.tup [])) ?_
  conv => whnf
  by_cases hr : mid < e ∧ e < b
  · refine ⟨fun _ => ?_, fun h => absurd h (by simp; omega)⟩
    (conv => whnf); (try (refine ⟨(rfl : (_ : Heap) = _), ?_⟩; (conv => whnf)))
    refine ⟨fun _ => ?_, fun h => absurd h (by simp; omega)⟩
    (conv => whnf); (try (refine ⟨(rfl : (_ : Heap) = _), ?_⟩; (conv => whnf)))
    refine ⟨_, _, hm (by omega) (by omega), ?_⟩
    (conv => whnf); (try (refine ⟨(rfl : (_ : Heap) = _), ?_⟩; (conv => whnf)))
    exact ⟨.inr rfl, rfl, rfl⟩
  · rw [h0 (by omega), List.append_assoc]
    rcases Nat.lt_or_ge mid e with g | g
    · refine ⟨fun _ => ?_, fun h => absurd h (by simp; omega)⟩
      (conv => whnf); (try (refine ⟨(rfl : (_ : Heap) = _), ?_⟩; (conv => whnf)))
      refine ⟨fun h => absurd h (by simp; omega), fun _ => ?_⟩
      (conv => whnf); (try (refine ⟨(rfl : (_ : Heap) = _), ?_⟩; (conv => whnf)))
      exact ⟨.inr rfl, rfl, rfl⟩
    · refine ⟨fun h => absurd h (by simp; omega), fun _ => ?_⟩
      (conv => whnf); (try (refine ⟨(rfl : (_ : Heap) = _), ?_⟩; (conv => whnf)))
      exact ⟨.inr rfl, rfl, rfl⟩

theorem tail2 (cs : List Cal) (N a m b mid t e : Nat) (A X Y Z W : List Int) (R : Exit → S → Prop) (ea : a = A.length) (em : t = a + X.length) (eb : mid = t + Y.length)
    (hm : 0 < X.length → 0 < Y.length → SoundAt Try.prog 82 [⟨1, 22, 1, [[lCal cs]], 0⟩, ⟨2, 3, 1, (A ++ (X ++ (Y ++ Z))).map encI, 0⟩] [.sl 1 [] 1 0 N false, I a, I t, I mid, .fn 36 [] [.ref 0 [] 1 0 0]] (.tup []) [⟨1, 22, 1, [[lCal cs]], 0⟩, ⟨2, 3, 1, (A ++ (W ++ Z)).map encI, 0⟩]) (h0 : ¬ (0 < X.length ∧ 0 < Y.length) → W = X ++ Y)
    (hn : RunR Try.prog 2 (behind 11 ((Try.f82.body).getD .skip)) ⟨[.sl 1 [] 1 0 N false, I a, I m, I b, .fn 36 [] [.ref 0 [] 1 0 0], .junk, .junk, .junk, .junk, .junk, .junk, .junk, .junk, .junk, .junk, .junk, .junk, .junk, I mid, .junk, I t, .junk, .junk, .junk, I e, .junk, .junk, .junk, .junk, .junk, .junk, .junk, .junk, .junk, .junk, .junk, .junk, .junk, .junk, .junk, .junk, .junk, .junk, .junk, .junk, .junk, .junk, .junk, .junk, .junk, .junk, .junk, .junk, .junk, .junk, .junk, .junk, .junk, .junk, .junk, .junk, .junk, .junk, .junk, .junk, .junk, .junk, .junk, .junk, .junk, .junk, .junk, .junk, .junk, .junk, .junk, .junk, .junk, .junk, .junk, .junk, .junk, .junk, .junk, .junk, .junk, .junk, .junk, .junk, .junk, .junk, .junk, .junk, .junk, .junk, .junk, .junk, .junk, .junk, .junk, .junk, .junk, .junk, .junk, .junk, .junk, .junk, .junk, .junk, .junk, .junk, .junk, .junk, .junk, .junk, .junk, .junk, .junk, .junk, .junk, .junk, .junk, .junk, .junk, .junk, .junk, .junk, .junk, .junk, .junk, .junk, .junk, .junk, .junk, .junk, .junk, .junk, .junk, .junk, .junk, .junk, .junk, .junk, .junk, .junk, .junk, .junk, .junk, .junk, .junk, .junk, .junk, .junk, .junk, .junk, .junk, .junk, .junk, .junk, .junk, .junk, .junk, .junk, .junk, .junk, .junk, .junk, .junk, .junk, .junk, .junk, .junk, .junk, .junk, .junk, .junk, .junk, .junk, .junk, .junk, .junk, .junk, .junk, .junk, .junk, .junk, .junk, .junk, .junk, .junk, .junk, .junk, .junk, .junk, .junk, .junk, .junk, .junk, .junk, .junk, .junk, .junk, .junk, .junk, .junk, .junk, .junk, .junk, .junk, .junk, .junk, .junk, .junk, .junk, .junk, .junk, .junk, .junk, .junk, .junk], [⟨1, 22, 1, [[lCal cs]], 0⟩, ⟨2, 3, 1, (A ++ (W ++ Z)).map encI, 0⟩]⟩ R) :
    RunR Try.prog 2 (behind 10 ((Try.f82.body).getD .skip)) ⟨[.sl 1 [] 1 0 N false, I a, I m, I b, .fn 36 [] [.ref 0 [] 1 0 0], .junk, .junk, .junk, .junk, .junk, .junk, .junk, .junk, .junk, .junk, .junk, .junk, .junk, I mid, .junk, I t, .junk, .junk, .junk, I e, .junk, .junk, .junk, .junk, .junk, .junk, .junk, .junk, .junk, .junk, .junk, .junk, .junk, .junk, .junk, .junk, .junk, .junk, .junk, .junk, .junk, .junk, .junk, .junk, .junk, .junk, .junk, .junk, .junk, .junk, .junk, .junk, .junk, .junk, .junk, .junk, .junk, .junk, .junk, .junk, .junk, .junk, .junk, .junk, .junk, .junk, .junk, .junk, .junk, .junk, .junk, .junk, .junk, .junk, .junk, .junk, .junk, .junk, .junk, .junk, .junk, .junk, .junk, .junk, .junk, .junk, .junk, .junk, .junk, .junk, .junk, .junk, .junk, .junk, .junk, .junk, .junk, .junk, .junk, .junk, .junk, .junk, .junk, .junk, .junk, .junk, .junk, .junk, .junk, .junk, .junk, .junk, .junk, .junk, .junk, .junk, .junk, .junk, .junk, .junk, .junk, .junk, .junk, .junk, .junk, .junk, .junk, .junk, .junk, .junk, .junk, .junk, .junk, .junk, .junk, .junk, .junk, .junk, .junk, .junk, .junk, .junk, .junk, .junk, .junk, .junk, .junk, .junk, .junk, .junk, .junk, .junk, .junk, .junk, .junk, .junk, .junk, .junk, .junk, .junk, .junk, .junk, .junk, .junk, .junk, .junk, .junk, .junk, .junk, .junk, .junk, .junk, .junk, .junk, .junk, .junk, .junk, .junk, .junk, .junk, .junk, .junk, .junk, .junk, .junk, .junk, .junk, .junk, .junk, .junk, .junk, .junk, .junk, .junk, .junk, .junk, .junk, .junk, .junk, .junk, .junk, .junk, .junk, .junk, .junk, .junk, .junk, .junk, .junk, .junk, .junk, .junk, .junk, .junk, .junk], [⟨1, 22, 1, [[lCal cs]], 0⟩, ⟨2, 3, 1, (A ++ (X ++ (Y ++ Z))).map encI, 0⟩]⟩ R := by
  refine cutK ?_
  conv => whnf
  by_cases hr : a < t ∧ t < mid
  · refine ⟨fun _ => ?_, fun h => absurd h (by simp; omega)⟩
    (conv => whnf); (try (refine ⟨(rfl : (_ : Heap) = _), ?_⟩; (conv => whnf)))
    refine ⟨fun _ => ?_, fun h => absurd h (by simp; omega)⟩
    (conv => whnf); (try (refine ⟨(rfl : (_ : Heap) = _), ?_⟩; (conv => whnf)))
    refine ⟨_, _, hm (by omega) (by omega), ?_⟩
    (conv => whnf); (try (refine ⟨(rfl : (_ : Heap) = _), ?_⟩; (conv => whnf)))
    exact .inl ⟨rfl, _, _, Weak.cov (by (conv => whnf); (repeat (refine ⟨rfl, ?_⟩; (conv => whnf))); exact trivial), hn⟩
  · rw [h0 (by omega), List.append_assoc] at hn
    rcases Nat.lt_or_ge a t with g | g
    · refine ⟨fun _ => ?_, fun h => absurd h (by simp; omega)⟩
      (conv => whnf); (try (refine ⟨(rfl : (_ : Heap) = _), ?_⟩; (conv => whnf)))
      refine ⟨fun h => absurd h (by simp; omega), fun _ => ?_⟩
      (conv => whnf); (try (refine ⟨(rfl : (_ : Heap) = _), ?_⟩; (conv => whnf)))
      exact .inl ⟨rfl, _, _, Weak.cov (by (conv => whnf); (repeat (refine ⟨rfl, ?_⟩; (conv => whnf))); exact trivial), hn⟩
    · refine ⟨fun h => absurd h (by simp; omega), fun _ => ?_⟩
      (conv => whnf); (try (refine ⟨(rfl : (_ : Heap) = _), ?_⟩; (conv => whnf)))
      exact .inl ⟨rfl, _, _, Weak.cov (by (conv => whnf); (repeat (refine ⟨rfl, ?_⟩; (conv => whnf))); exact trivial), hn⟩

theorem tail1 (cs : List Cal) (N a m b mid t e : Nat) (A X Y Z : List Int) (R : Exit → S → Prop) (ea : t = A.length) (em : m = t + X.length) (eb : e = m + Y.length) (hN : N = (A ++ (X ++ (Y ++ Z))).length) (hb : N ≤ 1000000000)
    (hn : RunR Try.prog 2 (behind 10 ((Try.f82.body).getD .skip)) ⟨[.sl 1 [] 1 0 N false, I a, I m, I b, .fn 36 [] [.ref 0 [] 1 0 0], .junk, .junk, .junk, .junk, .junk, .junk, .junk, .junk, .junk, .junk, .junk, .junk, .junk, I mid, .junk, I t, .junk, .junk, .junk, I e, .junk, .junk, .junk, .junk, .junk, .junk, .junk, .junk, .junk, .junk, .junk, .junk, .junk, .junk, .junk, .junk, .junk, .junk, .junk, .junk, .junk, .junk, .junk, .junk, .junk, .junk, .junk, .junk, .junk, .junk, .junk, .junk, .junk, .junk, .junk, .junk, .junk, .junk, .junk, .junk, .junk, .junk, .junk, .junk, .junk, .junk, .junk, .junk, .junk, .junk, .junk, .junk, .junk, .junk, .junk, .junk, .junk, .junk, .junk, .junk, .junk, .junk, .junk, .junk, .junk, .junk, .junk, .junk, .junk, .junk, .junk, .junk, .junk, .junk, .junk, .junk, .junk, .junk, .junk, .junk, .junk, .junk, .junk, .junk, .junk, .junk, .junk, .junk, .junk, .junk, .junk, .junk, .junk, .junk, .junk, .junk, .junk, .junk, .junk, .junk, .junk, .junk, .junk, .junk, .junk, .junk, .junk, .junk, .junk, .junk, .junk, .junk, .junk, .junk, .junk, .junk, .junk, .junk, .junk, .junk, .junk, .junk, .junk, .junk, .junk, .junk, .junk, .junk, .junk, .junk, .junk, .junk, .junk, .junk, .junk, .junk, .junk, .junk, .junk, .junk, .junk, .junk, .junk, .junk, .junk, .junk, .junk, .junk, .junk, .junk, .junk, .junk, .junk, .junk, .junk, .junk, .junk, .junk, .junk, .junk, .junk, .junk, .junk, .junk, .junk, .junk, .junk, .junk, .junk, .junk, .junk, .junk, .junk, .junk, .junk, .junk, .junk, .junk, .junk, .junk, .junk, .junk, .junk, .junk, .junk, .junk, .junk, .junk, .junk, .junk, .junk, .junk, .junk, .junk, .junk], [⟨1, 22, 1, [[lCal cs]], 0⟩, ⟨2, 3, 1, (A ++ (Y ++ (X ++ Z))).map encI, 0⟩]⟩ R) :
    RunR Try.prog 2 (behind 9 ((Try.f82.body).getD .skip)) ⟨[.sl 1 [] 1 0 N false, I a, I m, I b, .fn 36 [] [.ref 0 [] 1 0 0], .junk, .junk, .junk, .junk, .junk, .junk, .junk, .junk, .junk, .junk, .junk, .junk, .junk, I mid, .junk, I t, .junk, .junk, .junk, I e, .junk, .junk, .junk, .junk, .junk, .junk, .junk, .junk, .junk, .junk, .junk, .junk, .junk, .junk, .junk, .junk, .junk, .junk, .junk, .junk, .junk, .junk, .junk, .junk, .junk, .junk, .junk, .junk, .junk, .junk, .junk, .junk, .junk, .junk, .junk, .junk, .junk, .junk, .junk, .junk, .junk, .junk, .junk, .junk, .junk, .junk, .junk, .junk, .junk, .junk, .junk, .junk, .junk, .junk, .junk, .junk, .junk, .junk, .junk, .junk, .junk, .junk, .junk, .junk, .junk, .junk, .junk, .junk, .junk, .junk, .junk, .junk, .junk, .junk, .junk, .junk, .junk, .junk, .junk, .junk, .junk, .junk, .junk, .junk, .junk, .junk, .junk, .junk, .junk, .junk, .junk, .junk, .junk, .junk, .junk, .junk, .junk, .junk, .junk, .junk, .junk, .junk, .junk, .junk, .junk, .junk, .junk, .junk, .junk, .junk, .junk, .junk, .junk, .junk, .junk, .junk, .junk, .junk, .junk, .junk, .junk, .junk, .junk, .junk, .junk, .junk, .junk, .junk, .junk, .junk, .junk, .junk, .junk, .junk, .junk, .junk, .junk, .junk, .junk, .junk, .junk, .junk, .junk, .junk, .junk, .junk, .junk, .junk, .junk, .junk, .junk, .junk, .junk, .junk, .junk, .junk, .junk, .junk, .junk, .junk, .junk, .junk, .junk, .junk, .junk, .junk, .junk, .junk, .junk, .junk, .junk, .junk, .junk, .junk, .junk, .junk, .junk, .junk, .junk, .junk, .junk, .junk, .junk, .junk, .junk, .junk, .junk, .junk, .junk, .junk, .junk, .junk, .junk, .junk, .junk], [⟨1, 22, 1, [[lCal cs]], 0⟩, ⟨2, 3, 1, (A ++ (X ++ (Y ++ Z))).map encI, 0⟩]⟩ R := by
  refine cutK ?_
  conv => whnf
  by_cases hr : t < m ∧ m < e
  · refine ⟨fun _ => ?_, fun h => absurd h (by simp; omega)⟩
    (conv => whnf); (try (refine ⟨(rfl : (_ : Heap) = _), ?_⟩; (conv => whnf)))
    refine ⟨fun _ => ?_, fun h => absurd h (by simp; omega)⟩
    (conv => whnf); (try (refine ⟨(rfl : (_ : Heap) = _), ?_⟩; (conv => whnf)))
    refine ⟨_, _, rotate_sound cs N A X Y Z ea (by omega) (by omega) (by omega) (by omega) hN hb, ?_⟩
    (conv => whnf); (try (refine ⟨(rfl : (_ : Heap) = _), ?_⟩; (conv => whnf)))
    exact .inl ⟨rfl, _, _, Weak.cov (by (conv => whnf); (repeat (refine ⟨rfl, ?_⟩; (conv => whnf))); exact trivial), hn⟩
  · rcases Nat.lt_or_ge t m with g | g
    · obtain rfl : Y = [] := List.eq_nil_of_length_eq_zero (by omega)
      refine ⟨fun _ => ?_, fun h => absurd h (by simp; omega)⟩
      (conv => whnf); (try (refine ⟨(rfl : (_ : Heap) = _), ?_⟩; (conv => whnf)))
      refine ⟨fun h => absurd h (by simp; omega), fun _ => ?_⟩
      (conv => whnf); (try (refine ⟨(rfl : (_ : Heap) = _), ?_⟩; (conv => whnf)))
      exact .inl ⟨rfl, _, _, Weak.cov (by (conv => whnf); (repeat (refine ⟨rfl, ?_⟩; (conv => whnf))); exact trivial), hn⟩
    · obtain rfl : X = [] := List.eq_nil_of_length_eq_zero (by omega)
      refine ⟨fun h => absurd h (by simp; omega), fun _ => ?_⟩
      (conv => whnf); (try (refine ⟨(rfl : (_ : Heap) = _), ?_⟩; (conv => whnf)))
      exact .inl ⟨rfl, _, _, Weak.cov (by (conv => whnf); (repeat (refine ⟨rfl, ?_⟩; (conv => whnf))); exact trivial), hn⟩

theorem merge3_sound (cs : List Cal) (N : Nat) (A X Y Z W : List Int) {a m b : Nat} (ea : a = A.length) (em : m = A.length + X.length) (eb : b = A.length + X.length + Y.length) (hX : 1 < X.length) (hY : 1 < Y.length)
    (hN : N = (A ++ (X ++ (Y ++ Z))).length) (hb : N ≤ 1000000000) (hrx : Rg cs.length X) (hry : Rg cs.length Y) (sx : Sd (ptV cs) X) (sy : Sd (ptV cs) Y) (st : Stb (ptV cs) X Y)
    (hs : Sd (ptV cs) W) (hp : W.Perm (X ++ Y)) (ih : ∀ (A' X' Y' Z' W' : List Int) (a' m' b' : Nat), X'.length + Y'.length < X.length + Y.length → Merges cs N A' X' Y' Z' W' a' m' b') :
    SoundAt Try.prog 82 [⟨1, 22, 1, [[lCal cs]], 0⟩, ⟨2, 3, 1, (A ++ (X ++ (Y ++ Z))).map encI, 0⟩] [.sl 1 [] 1 0 N false, I a, I m, I b, .fn 36 [] [.ref 0 [] 1 0 0]] (.tup []) [⟨1, 22, 1, [[lCal cs]], 0⟩, ⟨2, 3, 1, (A ++ (W ++ Z)).map encI, 0⟩] := by
  have hN' := hN
  simp only [List.length_append] at hN
  have w1 : IntKind.i64.wrap ((m : Int) - (a : Int)) = (X.length : Nat) := by rw [i64_ok (by omega) (by omega)]; omega
  have w0 : IntKind.i64.wrap ((b : Int) - (m : Int)) = (Y.length : Nat) := by rw [i64_ok (by omega) (by omega)]; omega
  obtain ⟨mid, hmid⟩ : ∃ mid, mid = (a + b) / 2 := ⟨_, rfl⟩
  have w2 : IntKind.i64.wrap ((mid : Int) + (m : Int)) = (mid + m : Nat) := by rw [i64_ok (by omega) (by omega)]; omega
  have w3 : IntKind.i64.wrap (((mid + m : Nat) : Int) - 1) = (mid + m - 1 : Nat) := by rw [i64_ok (by omega) (by omega)]; omega
  obtain ⟨lo, hlo⟩ : ∃ lo, lo = if mid < m then mid + m - b else a := ⟨_, rfl⟩
  obtain ⟨hi, hhi⟩ : ∃ hi, hi = if mid < m then mid else m := ⟨_, rfl⟩
  obtain ⟨t, t1, t2, t3, t4, t5, t6⟩ := sym_key (A := A) (Z := Z) sx sy st (by omega) (by omega) ea (by omega) (by omega) hmid hlo hhi
  have b1 : a ≤ lo := by rw [hlo]; split <;> omega
  have b2 : hi ≤ m := by rw [hhi]; split <;> omega
  have b3 : hi ≤ mid := by rw [hhi]; split <;> omega
  have b4 : mid + m ≤ lo + b := by rw [hlo]; split <;> omega
  have rx : ∀ h, a ≤ h → h < m → dat (A ++ (X ++ (Y ++ Z))) h = dat X (h - a) := fun h h1 h2 => by rw [mid_dat (by omega) (by omega), ea]
  have ry : ∀ h, m ≤ h → h < b → dat (A ++ (X ++ (Y ++ Z))) h = dat Y (h - m) := fun h h1 h2 => by
    rw [mid_dat' (by omega) (by omega)]
    have e : h - A.length - X.length = h - m := by omega
    rw [e]
  obtain ⟨X1, X2, eX1, eX2, rfl⟩ : ∃ X1 X2, X1 = X.take (t - a) ∧ X2 = X.drop (t - a) ∧ X = X1 ++ X2 := ⟨_, _, rfl, rfl, (List.take_append_drop ..).symm⟩
  obtain ⟨Y1, Y2, eY1, eY2, rfl⟩ : ∃ Y1 Y2, Y1 = Y.take (mid - t) ∧ Y2 = Y.drop (mid - t) ∧ Y = Y1 ++ Y2 := ⟨_, _, rfl, rfl, (List.take_append_drop ..).symm⟩
  have l1 : X1.length = t - a := by have := congrArg List.length eX1; rw [List.length_take] at this; omega
  have l2 : Y1.length = mid - t := by have := congrArg List.length eY1; rw [List.length_take] at this; omega
  rw [← eX1, ← eY2] at t5
  rw [← eY1, ← eX2] at t6
  simp only [List.length_append] at em eb hX hY hN ih
  obtain ⟨W1, s1, p1⟩ := exists_sd (pt := ptV cs) (X1 ++ Y1)
  obtain ⟨W2, s2, p2⟩ := exists_sd (pt := ptV cs) (X2 ++ Y2)
  have hj := sym_join rfl rfl sx sy t5 t6 s1 s2 p1 p2
  obtain rfl : W = W1 ++ W2 := Sd.ext hs hj.1 (hp.trans hj.2.symm)
  have hl1 := p1.length_eq
  rw [List.length_append] at hl1
  obtain ⟨sx1, sx2, -⟩ := List.pairwise_append.1 sx
  obtain ⟨sy1, sy2, -⟩ := List.pairwise_append.1 sy
  have m1 := ih A X1 Y1 (X2 ++ (Y2 ++ Z)) W1 a t mid (by omega)
  have m2 := ih (A ++ W1) X2 Y2 Z W2 mid (mid + m - t) b (by omega)
  have w4 : IntKind.i64.wrap (((mid + m : Nat) : Int) - (t : Int)) = (mid + m - t : Nat) := by rw [i64_ok (by omega) (by omega)]; omega
  have E0 : A ++ (X1 ++ X2 ++ (Y1 ++ Y2 ++ Z)) = (A ++ X1) ++ (X2 ++ (Y1 ++ (Y2 ++ Z))) := by simp
  have E1 : (A ++ X1) ++ (Y1 ++ (X2 ++ (Y2 ++ Z))) = A ++ (X1 ++ (Y1 ++ (X2 ++ (Y2 ++ Z)))) := by simp
  have E2 : A ++ (W1 ++ (X2 ++ (Y2 ++ Z))) = (A ++ W1) ++ (X2 ++ (Y2 ++ Z)) := by simp
  have fin : A ++ (W1 ++ W2 ++ Z) = (A ++ W1) ++ (W2 ++ Z) := by simp
  have R1 : ¬ (0 < X1.length ∧ 0 < Y1.length) → W1 = X1 ++ Y1 := fun hn => by
    by_cases g : 0 < X1.length
    · obtain rfl : Y1 = [] := List.eq_nil_of_length_eq_zero (by omega)
      simp only [List.append_nil] at p1 ⊢
      exact Sd.ext s1 sx1 p1
    · obtain rfl : X1 = [] := List.eq_nil_of_length_eq_zero (by omega)
      exact Sd.ext s1 sy1 p1
  have R2 : ¬ (0 < X2.length ∧ 0 < Y2.length) → W2 = X2 ++ Y2 := fun hn => by
    by_cases g : 0 < X2.length
    · obtain rfl : Y2 = [] := List.eq_nil_of_length_eq_zero (by omega)
      simp only [List.append_nil] at p2 ⊢
      exact Sd.ext s2 sx2 p2
    · obtain rfl : X2 = [] := List.eq_nil_of_length_eq_zero (by omega)
      exact Sd.ext s2 sy2 p2
  have last := tail3 cs N a m b mid t (mid + m - t) (A ++ W1) X2 Y2 Z W2 (by simp only [List.length_append]; omega) (by omega) (by omega)
    (fun g1 g2 => m2 (by simp only [List.length_append]; omega) (by simp only [List.length_append]; omega) (by simp only [List.length_append]; omega) g1 g2 (by simp only [List.length_append]; omega) hrx.app.2 hry.app.2 sx2 sy2 (st.sub (fun x h => List.mem_append.2 (.inr h)) (fun x h => List.mem_append.2 (.inr h))) s2 p2) R2
  rw [← E2, ← fin] at last
  have mid2 := tail2 cs N a m b mid t (mid + m - t) A X1 Y1 (X2 ++ (Y2 ++ Z)) W1 _ ea (by omega) (by omega)
    (fun g1 g2 => m1 ea (by omega) (by omega) g1 g2 (by simp only [List.length_append]; omega) hrx.app.1 hry.app.1 sx1 sy1 (st.sub (fun x h => List.mem_append.2 (.inl h)) (fun x h => List.mem_append.2 (.inl h))) s1 p1) R1 last
  rw [← E1] at mid2
  have fst := tail1 cs N a m b mid t (mid + m - t) (A ++ X1) X2 Y1 (Y2 ++ Z) _ (by simp only [List.length_append]; omega) (by omega) (by omega) (by simp only [List.length_append]; omega) hb mid2
  rw [← E0] at fst
  refine SoundAt.of_cut (fn := Try.f82) Try.func82 rfl ?_
  refine cutK ?_
  conv => whnf
  refine ⟨fun h => absurd h (by rw [w1]; simp; omega), fun _ => ?_⟩
  (conv => whnf); (try (refine ⟨(rfl : (_ : Heap) = _), ?_⟩; (conv => whnf)))
  refine .inl ⟨rfl, _, _, .refl _, cutK ?_⟩
  conv => whnf
  refine ⟨fun h => absurd h (by rw [w0]; simp; omega), fun _ => ?_⟩
  (conv => whnf); (try (refine ⟨(rfl : (_ : Heap) = _), ?_⟩; (conv => whnf)))
  refine .inl ⟨rfl, _, _, .refl _, cutK ?_⟩
  conv => whnf
  rw [half (by omega), ← hmid]
  refine .inl ⟨rfl, _, _, .refl _, cutK ?_⟩
  conv => whnf
  rw [w2]
  refine .inl ⟨rfl, _, _, .refl _, cutK ?_⟩
  conv => whnf
  refine .inl ⟨rfl, _, _, .refl _, ?_⟩
  have go : RunR Try.prog 2 (behind 6 ((Try.f82.body).getD .skip)) ⟨[.sl 1 [] 1 0 N false, I a, I m, I b, .fn 36 [] [.ref 0 [] 1 0 0], .junk, .junk, .junk, .junk, .junk, .junk, .junk, .junk, .junk, .junk, .junk, .junk, .junk, I mid, I (mid + m : Nat), I lo, I hi, .junk, .junk, .junk, .junk, .junk, .junk, .junk, .junk, .junk, .junk, .junk, .junk, .junk, .junk, .junk, .junk, .junk, .junk, .junk, .junk, .junk, .junk, .junk, .junk, .junk, .junk, .junk, .junk, .junk, .junk, .junk, .junk, .junk, .junk, .junk, .junk, .junk, .junk, .junk, .junk, .junk, .junk, .junk, .junk, .junk, .junk, .junk, .junk, .junk, .junk, .junk, .junk, .junk, .junk, .junk, .junk, .junk, .junk, .junk, .junk, .junk, .junk, .junk, .junk, .junk, .junk, .junk, .junk, .junk, .junk, .junk, .junk, .junk, .junk, .junk, .junk, .junk, .junk, .junk, .junk, .junk, .junk, .junk, .junk, .junk, .junk, .junk, .junk, .junk, .junk, .junk, .junk, .junk, .junk, .junk, .junk, .junk, .junk, .junk, .junk, .junk, .junk, .junk, .junk, .junk, .junk, .junk, .junk, .junk, .junk, .junk, .junk, .junk, .junk, .junk, .junk, .junk, .junk, .junk, .junk, .junk, .junk, .junk, .junk, .junk, .junk, .junk, .junk, .junk, .junk, .junk, .junk, .junk, .junk, .junk, .junk, .junk, .junk, .junk, .junk, .junk, .junk, .junk, .junk, .junk, .junk, .junk, .junk, .junk, .junk, .junk, .junk, .junk, .junk, .junk, .junk, .junk, .junk, .junk, .junk, .junk, .junk, .junk, .junk, .junk, .junk, .junk, .junk, .junk, .junk, .junk, .junk, .junk, .junk, .junk, .junk, .junk, .junk, .junk, .junk, .junk, .junk, .junk, .junk, .junk, .junk, .junk, .junk, .junk, .junk, .junk, .junk, .junk, .junk, .junk, .junk, .junk, .junk], [⟨1, 22, 1, [[lCal cs]], 0⟩, ⟨2, 3, 1, (A ++ (X1 ++ X2 ++ (Y1 ++ Y2 ++ Z))).map encI, 0⟩]⟩ fun ex s => (ex = .ret ∨ ex = .normal) ∧ s.H = [⟨1, 22, 1, [[lCal cs]], 0⟩, ⟨2, 3, 1, (A ++ (W1 ++ W2 ++ Z)).map encI, 0⟩] ∧ resC Try.prog Try.f82 s = some (.tup []) := by
    clear hlo hhi
    refine cutK ?_
    conv => whnf
    rw [w3]
    refine .inl ⟨rfl, [.sl 1 [] 1 0 N false, I a, I m, I b, .fn 36 [] [.ref 0 [] 1 0 0], .junk, .junk, .junk, .junk, .junk, .junk, .junk, .junk, .junk, .junk, .junk, .junk, .junk, I mid, I (mid + m : Nat), I lo, I hi, I (mid + m - 1 : Nat), .junk, .junk, .junk, .junk, .junk, .junk, .junk, .junk, .junk, .junk, .junk, .junk, .junk, .junk, .junk, .junk, .junk, .junk, .junk, .junk, .junk, .junk, .junk, .junk, .junk, .junk, .junk, .junk, .junk, .junk, .junk, .junk, .junk, .junk, .junk, .junk, .junk, .junk, .junk, .junk, .junk, .junk, .junk, .junk, .junk, .junk, .junk, .junk, .junk, .junk, .junk, .junk, .junk, .junk, .junk, .junk, .junk, .junk, .junk, .junk, .junk, .junk, .junk, .junk, .junk, .junk, .junk, .junk, .junk, .junk, .junk, .junk, .junk, .junk, .junk, .junk, .junk, .junk, .junk, .junk, .junk, .junk, .junk, .junk, .junk, .junk, .junk, .junk, .junk, .junk, .junk, .junk, .junk, .junk, .junk, .junk, .junk, .junk, .junk, .junk, .junk, .junk, .junk, .junk, .junk, .junk, .junk, .junk, .junk, .junk, .junk, .junk, .junk, .junk, .junk, .junk, .junk, .junk, .junk, .junk, .junk, .junk, .junk, .junk, .junk, .junk, .junk, .junk, .junk, .junk, .junk, .junk, .junk, .junk, .junk, .junk, .junk, .junk, .junk, .junk, .junk, .junk, .junk, .junk, .junk, .junk, .junk, .junk, .junk, .junk, .junk, .junk, .junk, .junk, .junk, .junk, .junk, .junk, .junk, .junk, .junk, .junk, .junk, .junk, .junk, .junk, .junk, .junk, .junk, .junk, .junk, .junk, .junk, .junk, .junk, .junk, .junk, .junk, .junk, .junk, .junk, .junk, .junk, .junk, .junk, .junk, .junk, .junk, .junk, .junk, .junk, .junk, .junk, .junk, .junk, .junk, .junk], _, Weak.cov (by (conv => whnf); (repeat (refine ⟨rfl, ?_⟩; (conv => whnf))); exact trivial), cutK ?_⟩
    conv => whnf
    refine Loops.inv (fun q s1 H1 => ∃ (i j : Nat), j - i = q ∧ lo ≤ i ∧ i ≤ t ∧ t ≤ j ∧ j ≤ hi ∧ s1 = [.sl 1 [] 1 0 N false, I a, I m, I b, .fn 36 [] [.ref 0 [] 1 0 0], .junk, .junk, .junk, .junk, .junk, .junk, .junk, .junk, .junk, .junk, .junk, .junk, .junk, I mid, I (mid + m : Nat), I i, I j, I (mid + m - 1 : Nat), .junk, .junk, .junk, .junk, .junk, .junk, .junk, .junk, .junk, .junk, .junk, .junk, .junk, .junk, .junk, .junk, .junk, .junk, .junk, .junk, .junk, .junk, .junk, .junk, .junk, .junk, .junk, .junk, .junk, .junk, .junk, .junk, .junk, .junk, .junk, .junk, .junk, .junk, .junk, .junk, .junk, .junk, .junk, .junk, .junk, .junk, .junk, .junk, .junk, .junk, .junk, .junk, .junk, .junk, .junk, .junk, .junk, .junk, .junk, .junk, .junk, .junk, .junk, .junk, .junk, .junk, .junk, .junk, .junk, .junk, .junk, .junk, .junk, .junk, .junk, .junk, .junk, .junk, .junk, .junk, .junk, .junk, .junk, .junk, .junk, .junk, .junk, .junk, .junk, .junk, .junk, .junk, .junk, .junk, .junk, .junk, .junk, .junk, .junk, .junk, .junk, .junk, .junk, .junk, .junk, .junk, .junk, .junk, .junk, .junk, .junk, .junk, .junk, .junk, .junk, .junk, .junk, .junk, .junk, .junk, .junk, .junk, .junk, .junk, .junk, .junk, .junk, .junk, .junk, .junk, .junk, .junk, .junk, .junk, .junk, .junk, .junk, .junk, .junk, .junk, .junk, .junk, .junk, .junk, .junk, .junk, .junk, .junk, .junk, .junk, .junk, .junk, .junk, .junk, .junk, .junk, .junk, .junk, .junk, .junk, .junk, .junk, .junk, .junk, .junk, .junk, .junk, .junk, .junk, .junk, .junk, .junk, .junk, .junk, .junk, .junk, .junk, .junk, .junk, .junk, .junk, .junk, .junk, .junk, .junk, .junk, .junk, .junk, .junk, .junk, .junk, .junk, .junk, .junk, .junk, .junk, .junk] ∧ H1 = [⟨1, 22, 1, [[lCal cs]], 0⟩, ⟨2, 3, 1, (A ++ (X1 ++ X2 ++ (Y1 ++ Y2 ++ Z))).map encI, 0⟩]) (hi - lo) ?_ ?_
    · exact ⟨[.sl 1 [] 1 0 N false, I a, I m, I b, .fn 36 [] [.ref 0 [] 1 0 0], .junk, .junk, .junk, .junk, .junk, .junk, .junk, .junk, .junk, .junk, .junk, .junk, .junk, I mid, I (mid + m : Nat), I lo, I hi, I (mid + m - 1 : Nat), .junk, .junk, .junk, .junk, .junk, .junk, .junk, .junk, .junk, .junk, .junk, .junk, .junk, .junk, .junk, .junk, .junk, .junk, .junk, .junk, .junk, .junk, .junk, .junk, .junk, .junk, .junk, .junk, .junk, .junk, .junk, .junk, .junk, .junk, .junk, .junk, .junk, .junk, .junk, .junk, .junk, .junk, .junk, .junk, .junk, .junk, .junk, .junk, .junk, .junk, .junk, .junk, .junk, .junk, .junk, .junk, .junk, .junk, .junk, .junk, .junk, .junk, .junk, .junk, .junk, .junk, .junk, .junk, .junk, .junk, .junk, .junk, .junk, .junk, .junk, .junk, .junk, .junk, .junk, .junk, .junk, .junk, .junk, .junk, .junk, .junk, .junk, .junk, .junk, .junk, .junk, .junk, .junk, .junk, .junk, .junk, .junk, .junk, .junk, .junk, .junk, .junk, .junk, .junk, .junk, .junk, .junk, .junk, .junk, .junk, .junk, .junk, .junk, .junk, .junk, .junk, .junk, .junk, .junk, .junk, .junk, .junk, .junk, .junk, .junk, .junk, .junk, .junk, .junk, .junk, .junk, .junk, .junk, .junk, .junk, .junk, .junk, .junk, .junk, .junk, .junk, .junk, .junk, .junk, .junk, .junk, .junk, .junk, .junk, .junk, .junk, .junk, .junk, .junk, .junk, .junk, .junk, .junk, .junk, .junk, .junk, .junk, .junk, .junk, .junk, .junk, .junk, .junk, .junk, .junk, .junk, .junk, .junk, .junk, .junk, .junk, .junk, .junk, .junk, .junk, .junk, .junk, .junk, .junk, .junk, .junk, .junk, .junk, .junk, .junk, .junk, .junk, .junk, .junk, .junk, .junk, .junk], _, Weak.cov (by (conv => whnf); (repeat (refine ⟨rfl, ?_⟩; (conv => whnf))); exact trivial), lo, hi, rfl, by omega, by omega, by omega, by omega, rfl, rfl⟩
    rintro q s1 H1 ⟨i, j, h1, h2, h3, h4, h5, rfl, rfl⟩
    conv => whnf
    refine ⟨fun hc => ?_, fun hc => ?_⟩
    · have hc : i < j := by simpa using hc
      (conv => whnf); (try (refine ⟨(rfl : (_ : Heap) = _), ?_⟩; (conv => whnf)))
      refine ⟨⟨false, [], []⟩, by kernel_rfl, ?_⟩; (conv => whnf)
      rw [half (by omega)]
      obtain ⟨h, hh⟩ : ∃ h, h = (i + j) / 2 := ⟨_, rfl⟩
      rw [← hh]
      have w5 : IntKind.i64.wrap (((mid + m - 1 : Nat) : Int) - (h : Int)) = (mid + m - 1 - h : Nat) := by rw [i64_ok (by omega) (by omega)]; omega
      rw [w5]
      refine ⟨by omega, by omega, ?_⟩
      (conv => whnf); (try (refine ⟨(rfl : (_ : Heap) = _), ?_⟩; (conv => whnf)))
      refine ⟨_, by rw [Nat.zero_add, Int.toNat_natCast]; exact drow (by omega), Nat.le_of_ble_eq_true rfl, ?_⟩
      (conv => whnf); (try (refine ⟨(rfl : (_ : Heap) = _), ?_⟩; (conv => whnf)))
      refine ⟨by omega, by omega, ?_⟩
      (conv => whnf); (try (refine ⟨(rfl : (_ : Heap) = _), ?_⟩; (conv => whnf)))
      refine ⟨_, by rw [Nat.zero_add, Int.toNat_natCast]; exact drow (by omega), Nat.le_of_ble_eq_true rfl, ?_⟩
      (conv => whnf); (try (refine ⟨(rfl : (_ : Heap) = _), ?_⟩; (conv => whnf)))
      have v1 := hry (dat (Y1 ++ Y2) (mid + m - 1 - h - m)) (dat_mem (by simp only [List.length_append]; omega))
      rw [← ry _ (by omega) (by omega)] at v1
      have v2 := hrx (dat (X1 ++ X2) (h - a)) (dat_mem (by simp only [List.length_append]; omega))
      rw [← rx _ (by omega) (by omega)] at v2
      refine ⟨_, _, cmp_sound cs _ v1.1 v1.2 v2.1 v2.2, ?_⟩
      (conv => whnf); (try (refine ⟨(rfl : (_ : Heap) = _), ?_⟩; (conv => whnf)))
      refine ⟨fun hc3 => ?_, fun hc3 => ?_⟩
      · have hc3 : ptV cs (dat (A ++ (X1 ++ X2 ++ (Y1 ++ Y2 ++ Z))) (mid + m - 1 - h)) < ptV cs (dat (A ++ (X1 ++ X2 ++ (Y1 ++ Y2 ++ Z))) h) := by rw [cmp_lt] at hc3; simpa using hc3
        have hlt : t ≤ h := by
          rcases Nat.lt_or_ge h t with g | g
          · exact absurd hc3 (t3 h (by omega) g)
          · exact g
        (conv => whnf); (try (refine ⟨(rfl : (_ : Heap) = _), ?_⟩; (conv => whnf)))
        (repeat (first | (refine ⟨fun _ => ?_, fun h => absurd h (by decide)⟩; (conv => whnf); (try (refine ⟨(rfl : (_ : Heap) = _), ?_⟩; (conv => whnf)))) | (refine ⟨fun h => absurd h (by decide), fun _ => ?_⟩; (conv => whnf); (try (refine ⟨(rfl : (_ : Heap) = _), ?_⟩; (conv => whnf))))))
        exact .inl ⟨rfl, h - i, [.sl 1 [] 1 0 N false, I a, I m, I b, .fn 36 [] [.ref 0 [] 1 0 0], .junk, .junk, .junk, .junk, .junk, .junk, .junk, .junk, .junk, .junk, .junk, .junk, .junk, I mid, I (mid + m : Nat), I i, I h, I (mid + m - 1 : Nat), .junk, .junk, .junk, .junk, .junk, .junk, .junk, .junk, .junk, .junk, .junk, .junk, .junk, .junk, .junk, .junk, .junk, .junk, .junk, .junk, .junk, .junk, .junk, .junk, .junk, .junk, .junk, .junk, .junk, .junk, .junk, .junk, .junk, .junk, .junk, .junk, .junk, .junk, .junk, .junk, .junk, .junk, .junk, .junk, .junk, .junk, .junk, .junk, .junk, .junk, .junk, .junk, .junk, .junk, .junk, .junk, .junk, .junk, .junk, .junk, .junk, .junk, .junk, .junk, .junk, .junk, .junk, .junk, .junk, .junk, .junk, .junk, .junk, .junk, .junk, .junk, .junk, .junk, .junk, .junk, .junk, .junk, .junk, .junk, .junk, .junk, .junk, .junk, .junk, .junk, .junk, .junk, .junk, .junk, .junk, .junk, .junk, .junk, .junk, .junk, .junk, .junk, .junk, .junk, .junk, .junk, .junk, .junk, .junk, .junk, .junk, .junk, .junk, .junk, .junk, .junk, .junk, .junk, .junk, .junk, .junk, .junk, .junk, .junk, .junk, .junk, .junk, .junk, .junk, .junk, .junk, .junk, .junk, .junk, .junk, .junk, .junk, .junk, .junk, .junk, .junk, .junk, .junk, .junk, .junk, .junk, .junk, .junk, .junk, .junk, .junk, .junk, .junk, .junk, .junk, .junk, .junk, .junk, .junk, .junk, .junk, .junk, .junk, .junk, .junk, .junk, .junk, .junk, .junk, .junk, .junk, .junk, .junk, .junk, .junk, .junk, .junk, .junk, .junk, .junk, .junk, .junk, .junk, .junk, .junk, .junk, .junk, .junk, .junk, .junk, .junk, .junk, .junk, .junk, .junk, .junk, .junk], _, by omega, Weak.cov (by (conv => whnf); (repeat (refine ⟨rfl, ?_⟩; (conv => whnf))); exact trivial), i, h, rfl, by omega, by omega, by omega, by omega, rfl, rfl⟩
      · have hc3 : ¬ ptV cs (dat (A ++ (X1 ++ X2 ++ (Y1 ++ Y2 ++ Z))) (mid + m - 1 - h)) < ptV cs (dat (A ++ (X1 ++ X2 ++ (Y1 ++ Y2 ++ Z))) h) := by rw [cmp_lt] at hc3; simpa using hc3
        have hlt : h < t := by
          rcases Nat.lt_or_ge h t with g | g
          · exact g
          · exact absurd (t4 h g (by omega)) hc3
        (conv => whnf); (try (refine ⟨(rfl : (_ : Heap) = _), ?_⟩; (conv => whnf)))
        (repeat (first | (refine ⟨fun _ => ?_, fun h => absurd h (by decide)⟩; (conv => whnf); (try (refine ⟨(rfl : (_ : Heap) = _), ?_⟩; (conv => whnf)))) | (refine ⟨fun h => absurd h (by decide), fun _ => ?_⟩; (conv => whnf); (try (refine ⟨(rfl : (_ : Heap) = _), ?_⟩; (conv => whnf))))))
        rw [i64_nat (by omega)]
        exact .inl ⟨rfl, j - (h + 1), [.sl 1 [] 1 0 N false, I a, I m, I b, .fn 36 [] [.ref 0 [] 1 0 0], .junk, .junk, .junk, .junk, .junk, .junk, .junk, .junk, .junk, .junk, .junk, .junk, .junk, I mid, I (mid + m : Nat), I (h + 1 : Nat), I j, I (mid + m - 1 : Nat), .junk, .junk, .junk, .junk, .junk, .junk, .junk, .junk, .junk, .junk, .junk, .junk, .junk, .junk, .junk, .junk, .junk, .junk, .junk, .junk, .junk, .junk, .junk, .junk, .junk, .junk, .junk, .junk, .junk, .junk, .junk, .junk, .junk, .junk, .junk, .junk, .junk, .junk, .junk, .junk, .junk, .junk, .junk, .junk, .junk, .junk, .junk, .junk, .junk, .junk, .junk, .junk, .junk, .junk, .junk, .junk, .junk, .junk, .junk, .junk, .junk, .junk, .junk, .junk, .junk, .junk, .junk, .junk, .junk, .junk, .junk, .junk, .junk, .junk, .junk, .junk, .junk, .junk, .junk, .junk, .junk, .junk, .junk, .junk, .junk, .junk, .junk, .junk, .junk, .junk, .junk, .junk, .junk, .junk, .junk, .junk, .junk, .junk, .junk, .junk, .junk, .junk, .junk, .junk, .junk, .junk, .junk, .junk, .junk, .junk, .junk, .junk, .junk, .junk, .junk, .junk, .junk, .junk, .junk, .junk, .junk, .junk, .junk, .junk, .junk, .junk, .junk, .junk, .junk, .junk, .junk, .junk, .junk, .junk, .junk, .junk, .junk, .junk, .junk, .junk, .junk, .junk, .junk, .junk, .junk, .junk, .junk, .junk, .junk, .junk, .junk, .junk, .junk, .junk, .junk, .junk, .junk, .junk, .junk, .junk, .junk, .junk, .junk, .junk, .junk, .junk, .junk, .junk, .junk, .junk, .junk, .junk, .junk, .junk, .junk, .junk, .junk, .junk, .junk, .junk, .junk, .junk, .junk, .junk, .junk, .junk, .junk, .junk, .junk, .junk, .junk, .junk, .junk, .junk, .junk, .junk, .junk], _, by omega, Weak.cov (by (conv => whnf); (repeat (refine ⟨rfl, ?_⟩; (conv => whnf))); exact trivial), h + 1, j, rfl, by omega, by omega, by omega, by omega, rfl, rfl⟩
    · have hc : i = t := by simp at hc; omega
      subst hc
      (conv => whnf); (try (refine ⟨(rfl : (_ : Heap) = _), ?_⟩; (conv => whnf)))
      refine .inr ⟨by simp, ?_⟩
      conv => whnf
      refine .inl ⟨rfl, [.sl 1 [] 1 0 N false, I a, I m, I b, .fn 36 [] [.ref 0 [] 1 0 0], .junk, .junk, .junk, .junk, .junk, .junk, .junk, .junk, .junk, .junk, .junk, .junk, .junk, I mid, I (mid + m : Nat), I i, I j, I (mid + m - 1 : Nat), .junk, .junk, .junk, .junk, .junk, .junk, .junk, .junk, .junk, .junk, .junk, .junk, .junk, .junk, .junk, .junk, .junk, .junk, .junk, .junk, .junk, .junk, .junk, .junk, .junk, .junk, .junk, .junk, .junk, .junk, .junk, .junk, .junk, .junk, .junk, .junk, .junk, .junk, .junk, .junk, .junk, .junk, .junk, .junk, .junk, .junk, .junk, .junk, .junk, .junk, .junk, .junk, .junk, .junk, .junk, .junk, .junk, .junk, .junk, .junk, .junk, .junk, .junk, .junk, .junk, .junk, .junk, .junk, .junk, .junk, .junk, .junk, .junk, .junk, .junk, .junk, .junk, .junk, .junk, .junk, .junk, .junk, .junk, .junk, .junk, .junk, .junk, .junk, .junk, .junk, .junk, .junk, .junk, .junk, .junk, .junk, .junk, .junk, .junk, .junk, .junk, .junk, .junk, .junk, .junk, .junk, .junk, .junk, .junk, .junk, .junk, .junk, .junk, .junk, .junk, .junk, .junk, .junk, .junk, .junk, .junk, .junk, .junk, .junk, .junk, .junk, .junk, .junk, .junk, .junk, .junk, .junk, .junk, .junk, .junk, .junk, .junk, .junk, .junk, .junk, .junk, .junk, .junk, .junk, .junk, .junk, .junk, .junk, .junk, .junk, .junk, .junk, .junk, .junk, .junk, .junk, .junk, .junk, .junk, .junk, .junk, .junk, .junk, .junk, .junk, .junk, .junk, .junk, .junk, .junk, .junk, .junk, .junk, .junk, .junk, .junk, .junk, .junk, .junk, .junk, .junk, .junk, .junk, .junk, .junk, .junk, .junk, .junk, .junk, .junk, .junk, .junk, .junk, .junk, .junk, .junk, .junk], _, Weak.cov (by (conv => whnf); (repeat (refine ⟨rfl, ?_⟩; (conv => whnf))); exact trivial), cutK ?_⟩
      conv => whnf
      rw [w4]
      exact .inl ⟨rfl, _, _, Weak.cov (by (conv => whnf); (repeat (refine ⟨rfl, ?_⟩; (conv => whnf))); exact trivial), fst⟩
  refine cutK ?_
  conv => whnf
  refine ⟨fun hc => ?_, fun hc => ?_⟩
  · have hc : mid < m := by simpa using hc
    rw [if_pos hc] at hlo hhi
    have e1 : IntKind.i64.wrap (((mid + m : Nat) : Int) - (b : Int)) = (lo : Nat) := by rw [i64_ok (by omega) (by omega)]; omega
    (conv => whnf); (try (refine ⟨(rfl : (_ : Heap) = _), ?_⟩; (conv => whnf)))
    rw [e1]
    rw [hhi] at go
    exact .inl ⟨rfl, _, _, Weak.cov (by (conv => whnf); (repeat (refine ⟨rfl, ?_⟩; (conv => whnf))); exact trivial), go⟩
  · have hc : ¬ mid < m := by simpa using hc
    rw [if_neg hc] at hlo hhi
    (conv => whnf); (try (refine ⟨(rfl : (_ : Heap) = _), ?_⟩; (conv => whnf)))
    rw [hhi, hlo] at go
    exact .inl ⟨rfl, _, _, Weak.cov (by (conv => whnf); (repeat (refine ⟨rfl, ?_⟩; (conv => whnf))); exact trivial), go⟩
theorem symMerge_sound (cs : List Cal) (N : Nat) (hb : N ≤ 1000000000) : ∀ (L : Nat) (A X Y Z W : List Int) (a m b : Nat), X.length + Y.length = L → Merges cs N A X Y Z W a m b := by
  intro L
  induction L using Nat.strongRecOn with
  | _ L ih =>
    intro A X Y Z W a m b hL ea em eb hX hY hN hrx hry sx sy st hs hp
    by_cases h1 : X.length = 1
    · obtain ⟨x, rfl⟩ := List.length_eq_one_iff.1 h1
      exact merge1_sound cs N A Y Z W x ea em eb hY hN hb (hrx x (by simp)) hry sy st hs hp
    · by_cases h2 : Y.length = 1
      · obtain ⟨y, rfl⟩ := List.length_eq_one_iff.1 h2
        exact merge2_sound cs N A X Z W y ea em eb (by omega) hN hb (hry y (by simp)) hrx sx st hs hp
      · exact merge3_sound cs N A X Y Z W ea em eb (by omega) (by omega) hN hb hrx hry sx sy st hs hp fun A' X' Y' Z' W' a' m' b' hl => ih _ (by omega) A' X' Y' Z' W' a' m' b' rfl
end Go.Srt
