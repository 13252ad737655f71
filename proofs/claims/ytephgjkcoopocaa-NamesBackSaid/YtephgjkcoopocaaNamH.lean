/- Layer 3 (names): the statement NamesBack: plain law, and walked. -/
import Derived.Test.YtephgjkcoopocaaNamF
import Derived.Lib.IndexLaws
namespace Go.Nam
open Go.Ab Go.Proofs Go.Hy Go.Gat
set_option linter.unusedVariables false
set_option maxRecDepth 8000

/-! ### Plain -/

/-- The first so many parts, with the byte between them. -/
def jn (b : UInt8) (s : Str) : Nat → Str
  | 0 => []
  | k + 1 => (if k = 0 then [] else jn b s k ++ [b]) ++ ((cutV b s)[k]?).getD []

theorem head_tail {b : UInt8} : ∀ {s : Str}, b ∈ s → headV b s ++ b :: tailV b s = s
  | s, h => by
    have h1 := head_take b s
    have h2 := tail_drop b s
    have h3 := head_lt h
    have h4 : s[(headV b s).length] = b := by
      have h5 := idx_some h
      obtain ⟨o1, _⟩ := Go.Lib.indexByte_some h5
      rw [List.getElem?_eq_getElem h3] at o1
      exact Option.some.inj o1
    have h5 : s.drop (headV b s).length = b :: tailV b s := by rw [List.drop_eq_getElem_cons h3, h4, h2]
    have h6 := List.take_append_drop (headV b s).length s
    rw [h1, h5] at h6
    exact h6

theorem jn_succ {b : UInt8} {s : Str} {k : Nat} {p : Str} (h : (cutV b s)[k]? = some p) : jn b s (k + 1) = (if k = 0 then [] else jn b s k ++ [b]) ++ p := by
  show (if k = 0 then [] else jn b s k ++ [b]) ++ ((cutV b s)[k]?).getD [] = _
  rw [h]; rfl

theorem jn_rest {b : UInt8} {s : Str} : ∀ {k : Nat}, k < (cutV b s).length → (if k = 0 then [] else jn b s k ++ [b]) ++ restV b s k = s
  | 0, _ => rfl
  | k + 1, h => by
    obtain ⟨h1, h2, h3⟩ := cut_at (b := b) (s := s) (k := k) h
    have ih := jn_rest (b := b) (s := s) (k := k) (by omega)
    rw [if_neg (by omega), jn_succ h2]
    rw [← head_tail h1] at ih
    simp only [List.append_assoc, List.singleton_append] at ih ⊢
    exact ih

theorem jn_all (b : UInt8) (s : Str) : jn b s (cutV b s).length = s := by
  have h0 : 0 < (cutV b s).length := by
    rcases Nat.eq_zero_or_pos (cutV b s).length with e | e
    · exact absurd (List.length_eq_zero_iff.1 e) (cutV_ne b s)
    · exact e
  obtain ⟨k, hk⟩ : ∃ k, (cutV b s).length = k + 1 := ⟨(cutV b s).length - 1, by omega⟩
  obtain ⟨h1, h2⟩ := cut_last (b := b) (s := s) hk.symm
  rw [hk, jn_succ h2]
  exact jn_rest (by omega)

theorem part_free {b : UInt8} {s : Str} {k : Nat} {p : Str} (h : (cutV b s)[k]? = some p) : b ∉ p := by
  have hk := (List.getElem?_eq_some_iff.1 h).1
  by_cases hl : k + 1 = (cutV b s).length
  · obtain ⟨h1, h2⟩ := cut_last hl
    rw [h2] at h; cases h; exact h1
  · obtain ⟨h1, h2, h3⟩ := cut_at (b := b) (s := s) (k := k) (by omega)
    rw [h2] at h; cases h
    intro hm
    have := List.all_takeWhile (l := restV b s k) (p := (· != b))
    rw [List.all_eq_true] at this
    have := this b hm
    simp at this

theorem jn_len (b : UInt8) (s : Str) (k : Nat) (hk : k ≤ (cutV b s).length) : (jn b s k).length ≤ s.length := by
  rcases Nat.lt_or_ge k (cutV b s).length with h | h
  · have := congrArg List.length (jn_rest (b := b) (s := s) h)
    rcases Nat.eq_zero_or_pos k with e | e
    · subst e; simp [jn]
    · rw [if_neg (by omega)] at this
      simp at this
      omega
  · have : k = (cutV b s).length := by omega
    rw [this, jn_all]
    exact Nat.le_refl _

/-! ### Walked -/

theorem back_sound (s : Str) (b : UInt8) : SoundAt Try.prog 6 [] [Tx s, By (bI b)] (Bo true) [] := by
  refine SoundAt.of_wpA1 (fn := Try.f6) Try.func6 rfl ?_
  conv => whnf
  refine ⟨fun h0 => ?_, fun h0 => ?_⟩
  · conv => whnf
    exact ⟨.inl rfl, _, .refl _, rfl⟩
  have hl : s.length ≤ 2000 := by simp at h0; omega
  have h2 : s.length < 8000000000000 := by omega
  have h3 := cut_len b s
  have h4 : 0 < (cutV b s).length := by
    rcases Nat.eq_zero_or_pos (cutV b s).length with e | e
    · exact absurd (List.length_eq_zero_iff.1 e) (cutV_ne b s)
    · exact e
  conv => whnf
  refine ⟨_, _, (parts_all s b h2).frame rfl _, ?_⟩; (conv => whnf); (try (refine ⟨(rfl : (_ : Heap) = _), ?_⟩; (conv => whnf)))
  refine Loops.seq (cutV b s).length (fun k => [Tx s, By (bI b), .junk, .junk, Bo false, lT (cutV b s), Tx (jn b s k), I ((k - 1 : Nat) : Int), I k, .junk, .junk, .junk, .junk, .junk, .junk, .junk, .junk, .junk, .junk, .junk, .junk, .junk, .junk, .junk, .junk, .junk, .junk, .junk, .junk, .junk, .junk, .junk, .junk, .junk, .junk, .junk, .junk, .junk, .junk, .junk, .junk, .junk, .junk, .junk, .junk, .junk, .junk, .junk, .junk, .junk, .junk, .junk, .junk, .junk, .junk, .junk, .junk, .junk, .junk, .junk, .junk, .junk, .junk, .junk, .junk, .junk, .junk]) (fun k => []) (fun _ => True) ?_ trivial (fun k hk _ => ?_) (fun _ => ?_)
  · exact Weak.cov (by (conv => whnf); (repeat (refine ⟨rfl, ?_⟩; (conv => whnf))); exact trivial)
  · have hp : (cutV b s)[k]? = some (cutV b s)[k] := List.getElem?_eq_getElem hk
    have hj := jn_len b s k (by omega)
    have hj1 := jn_len b s (k + 1) (by omega)
    rw [jn_succ hp] at hj1
    have hfree := part_free hp
    have hple := part_le b s k _ hp
    generalize hP : (cutV b s)[k] = p at *
    have hpe : (List.map encT (cutV b s))[k]? = some (encT p) := by rw [List.getElem?_map, hp]; rfl
    conv => whnf
    refine ⟨fun h => ?_, fun h => absurd h (by simp; omega)⟩
    conv => whnf
    have inner : ∀ (X : Prop), X → X := fun _ h => h
    refine ⟨fun h5 => ?_, fun h5 => ?_⟩
    · have hk0 : k ≠ 0 := by simp at h5; omega
      have hw : IntKind.i64.wrap (((k - 1 : Nat) : Int) + 1) = (k : Int) := by rw [i64_ok (by omega) (by omega)]; omega
      rw [if_neg hk0] at hj1
      conv => whnf
      refine ⟨[b], rfl, ?_⟩
      conv => whnf
      refine ⟨by simp; omega, ?_⟩
      conv => whnf
      rw [hw]
      refine Loops.seq p.length (fun j => [Tx s, By (bI b), .junk, .junk, Bo false, lT (cutV b s), Tx (jn b s k ++ [b]), I k, I k, I j, .junk, .junk, .junk, .junk, .junk, .junk, .junk, .junk, .junk, .junk, .junk, .junk, .junk, .junk, .junk, .junk, .junk, .junk, .junk, .junk, .junk, .junk, .junk, .junk, .junk, .junk, .junk, .junk, .junk, .junk, .junk, .junk, .junk, .junk, .junk, .junk, .junk, .junk, .junk, .junk, .junk, .junk, .junk, .junk, .junk, .junk, .junk, .junk, .junk, .junk, .junk, .junk, .junk, .junk, .junk, .junk, .junk]) (fun j => []) (fun _ => True) ?_ trivial (fun j hjl _ => ?_) (fun _ => ?_)
      · exact Weak.cov (by (conv => whnf); (repeat (refine ⟨rfl, ?_⟩; (conv => whnf))); exact trivial)
      · conv => whnf
        refine ⟨by omega, encT p, hpe, ?_⟩
        (conv => whnf); (try (refine ⟨(rfl : (_ : Heap) = _), ?_⟩; (conv => whnf)))
        refine ⟨fun h => ?_, fun h => absurd h (by simp; omega)⟩
        conv => whnf
        refine ⟨by omega, encT p, hpe, ?_⟩
        (conv => whnf); (try (refine ⟨(rfl : (_ : Heap) = _), ?_⟩; (conv => whnf)))
        refine ⟨by omega, p[j], by rw [toNat_cast, List.getElem?_eq_getElem hjl], ?_⟩
        (conv => whnf); (try (refine ⟨(rfl : (_ : Heap) = _), ?_⟩; (conv => whnf)))
        have hne : p[j] ≠ b := fun e => hfree (e ▸ List.getElem_mem hjl)
        refine ⟨fun h6 => absurd (UInt8.toNat_inj.1 (by simp [bI] at h6; omega)) hne, fun h6 => ?_⟩
        (conv => whnf); (try (refine ⟨(rfl : (_ : Heap) = _), ?_⟩; (conv => whnf)))
        refine .inl ⟨rfl, ?_, trivial⟩
        rw [i64_nat (by omega)]
        exact Weak.covD 0 (by (conv => whnf); (repeat (refine ⟨rfl, ?_⟩; (conv => whnf))); exact trivial) rfl rfl rfl rfl rfl
      · conv => whnf
        refine ⟨by omega, encT p, hpe, ?_⟩
        (conv => whnf); (try (refine ⟨(rfl : (_ : Heap) = _), ?_⟩; (conv => whnf)))
        refine ⟨fun h => absurd h (by simp), fun h => ?_⟩
        conv => whnf
        refine ⟨by simp, ?_⟩
        conv => whnf
        refine ⟨by omega, encT p, hpe, ?_⟩
        (conv => whnf); (try (refine ⟨(rfl : (_ : Heap) = _), ?_⟩; (conv => whnf)))
        refine ⟨by simp at hj1 ⊢; omega, ?_⟩
        conv => whnf
        refine .inl ⟨rfl, ?_, trivial⟩
        have ej : jn b s (k + 1) = jn b s k ++ [b] ++ p := by rw [jn_succ hp, if_neg hk0]
        have e1 : k + 1 - 1 = k := rfl
        rw [i64_nat (by omega), ej]
        exact Weak.covD 0 (by (conv => whnf); (repeat (refine ⟨rfl, ?_⟩; (conv => whnf))); exact trivial) rfl rfl rfl rfl rfl
    · obtain rfl : k = 0 := by simp at h5; omega
      conv => whnf
      refine Loops.seq p.length (fun j => [Tx s, By (bI b), .junk, .junk, Bo false, lT (cutV b s), Tx [], I 0, I 0, I j, .junk, .junk, .junk, .junk, .junk, .junk, .junk, .junk, .junk, .junk, .junk, .junk, .junk, .junk, .junk, .junk, .junk, .junk, .junk, .junk, .junk, .junk, .junk, .junk, .junk, .junk, .junk, .junk, .junk, .junk, .junk, .junk, .junk, .junk, .junk, .junk, .junk, .junk, .junk, .junk, .junk, .junk, .junk, .junk, .junk, .junk, .junk, .junk, .junk, .junk, .junk, .junk, .junk, .junk, .junk, .junk, .junk]) (fun j => []) (fun _ => True) ?_ trivial (fun j hjl _ => ?_) (fun _ => ?_)
      · exact Weak.cov (by (conv => whnf); (repeat (refine ⟨rfl, ?_⟩; (conv => whnf))); exact trivial)
      · conv => whnf
        refine ⟨by omega, encT p, hpe, ?_⟩
        (conv => whnf); (try (refine ⟨(rfl : (_ : Heap) = _), ?_⟩; (conv => whnf)))
        refine ⟨fun h => ?_, fun h => absurd h (by simp; omega)⟩
        conv => whnf
        refine ⟨by omega, encT p, hpe, ?_⟩
        (conv => whnf); (try (refine ⟨(rfl : (_ : Heap) = _), ?_⟩; (conv => whnf)))
        refine ⟨by omega, p[j], by rw [toNat_cast, List.getElem?_eq_getElem hjl], ?_⟩
        (conv => whnf); (try (refine ⟨(rfl : (_ : Heap) = _), ?_⟩; (conv => whnf)))
        have hne : p[j] ≠ b := fun e => hfree (e ▸ List.getElem_mem hjl)
        refine ⟨fun h6 => absurd (UInt8.toNat_inj.1 (by simp [bI] at h6; omega)) hne, fun h6 => ?_⟩
        (conv => whnf); (try (refine ⟨(rfl : (_ : Heap) = _), ?_⟩; (conv => whnf)))
        refine .inl ⟨rfl, ?_, trivial⟩
        rw [i64_nat (by omega)]
        exact Weak.covD 0 (by (conv => whnf); (repeat (refine ⟨rfl, ?_⟩; (conv => whnf))); exact trivial) rfl rfl rfl rfl rfl
      · conv => whnf
        refine ⟨by omega, encT p, hpe, ?_⟩
        (conv => whnf); (try (refine ⟨(rfl : (_ : Heap) = _), ?_⟩; (conv => whnf)))
        refine ⟨fun h => absurd h (by simp), fun h => ?_⟩
        conv => whnf
        refine ⟨by simp, ?_⟩
        conv => whnf
        refine ⟨by omega, encT p, hpe, ?_⟩
        (conv => whnf); (try (refine ⟨(rfl : (_ : Heap) = _), ?_⟩; (conv => whnf)))
        refine ⟨by simp at hj1 ⊢; omega, ?_⟩
        conv => whnf
        refine .inl ⟨rfl, ?_, trivial⟩
        have ej : jn b s (0 + 1) = p := by rw [jn_succ hp, if_pos rfl]; rfl
        rw [ej]
        exact Weak.covD 0 (by (conv => whnf); (repeat (refine ⟨rfl, ?_⟩; (conv => whnf))); exact trivial) rfl rfl rfl rfl rfl
  · have e := jn_all b s
    conv => whnf
    refine ⟨fun h => absurd h (by simp), fun h => ?_⟩
    conv => whnf
    refine ⟨by simp, ?_⟩
    rw [e]
    conv => whnf
    refine ⟨_, _, (named_sound).frame rfl _, ?_⟩; (conv => whnf); (try (refine ⟨(rfl : (_ : Heap) = _), ?_⟩; (conv => whnf)))
    (repeat (first | (refine ⟨fun _ => ?_, fun h => absurd h (by decide)⟩; (conv => whnf); (try (refine ⟨(rfl : (_ : Heap) = _), ?_⟩; (conv => whnf)))) | (refine ⟨fun h => absurd h (by decide), fun _ => ?_⟩; (conv => whnf); (try (refine ⟨(rfl : (_ : Heap) = _), ?_⟩; (conv => whnf))))))
    refine ⟨fun h5 => ?_, fun h5 => ?_⟩
    · (conv => whnf); (try (refine ⟨(rfl : (_ : Heap) = _), ?_⟩; (conv => whnf)))
      have hw : IntKind.i64.wrap (((cutV b s).map encT).length - 1 : Int) = (((cutV b s).length - 1 : Nat) : Int) := by rw [List.length_map, i64_ok (by omega) (by omega)]; omega
      rw [hw]
      refine ⟨fun _ => ?_, fun h => absurd h (by simp)⟩
      (conv => whnf); (try (refine ⟨(rfl : (_ : Heap) = _), ?_⟩; (conv => whnf)))
      exact ⟨.inl rfl, _, .refl _, rfl⟩
    · exact absurd h5 (by simp)

end Go.Nam
