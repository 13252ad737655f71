/- Layer 3 (names): prefixes, patterns and paths, walked. -/
import Derived.Test.YtephgjkcoopocaaNamC
namespace Go.Nam
open Go.Ab Go.Proofs Go.Hy Go.Gat
set_option linter.unusedVariables false
set_option maxRecDepth 8000

def hasP (s p : Str) : Bool := decide (p.length ≤ s.length) && (s.take p.length == p)

theorem hasPrefix_sound (s p : Str) : SoundAt Try.prog 89 [] [Tx s, Tx p] (Bo (hasP s p)) [] := by
  refine SoundAt.of_wpA1 (fn := Try.f89) Try.func89 rfl ?_
  conv => whnf
  refine ⟨fun h => ?_, fun h => ?_⟩
  · (conv => whnf); (try (refine ⟨(rfl : (_ : Heap) = _), ?_⟩; (conv => whnf)))
    refine ⟨by omega, by omega, by simp at h; omega, ?_⟩
    rw [toNat_cast, List.drop_zero]
    conv => whnf
    (repeat' (first | (refine ⟨fun _ => ?_, fun _ => ?_⟩ <;> (conv => whnf)) | fail))
    all_goals (exact ⟨.inl rfl, _, .refl _, congrArg (fun b => some (C.v (Value.bool b))) (by simp_all [hasP])⟩)
  · conv => whnf
    (exact ⟨.inl rfl, _, .refl _, congrArg (fun b => some (C.v (Value.bool b))) (by simp_all [hasP]; intros; omega)⟩)

abbrev tSB (r : Str × Bool) : C := .tup [Tx r.1, Bo r.2]
def cutP (s p : Str) : Str × Bool := if hasP s p then (s.drop p.length, true) else (s, false)

theorem cutPre1_sound (s p : Str) : SoundAt Try.prog 81 [] [Tx s, Tx p] (tSB (cutP s p)) [] := by
  refine SoundAt.of_wpA1 (fn := Try.f81) Try.func81 rfl ?_
  conv => whnf
  refine ⟨_, _, (hasPrefix_sound s p).frame rfl _, ?_⟩; (conv => whnf); (try (refine ⟨(rfl : (_ : Heap) = _), ?_⟩; (conv => whnf)))
  refine ⟨fun h => ?_, fun h => ?_⟩
  · (conv => whnf); (try (refine ⟨(rfl : (_ : Heap) = _), ?_⟩; (conv => whnf)))
    have h' : p.length ≤ s.length := by simp [hasP] at h; exact h.1
    refine ⟨by omega, by omega, by omega, ?_⟩
    rw [List.take_length, toNat_cast]
    conv => whnf
    have e : cutP s p = (s.drop p.length, true) := by unfold cutP; rw [if_pos h]
    rw [e]
    exact ⟨.inl rfl, _, .refl _, rfl⟩
  · conv => whnf
    have e : cutP s p = (s, false) := by unfold cutP; rw [if_neg (by simp [h])]
    rw [e]
    exact ⟨.inl rfl, _, .refl _, rfl⟩
theorem cutPre_sound (s p : Str) : SoundAt Try.prog 60 [] [Tx s, Tx p] (tSB (cutP s p)) [] := by
  refine SoundAt.of_wpA1 (fn := Try.f60) Try.func60 rfl ?_
  conv => whnf
  refine ⟨_, _, (cutPre1_sound s p).frame rfl _, ?_⟩; (conv => whnf); (try (refine ⟨(rfl : (_ : Heap) = _), ?_⟩; (conv => whnf)))
  (repeat' (first | (refine ⟨fun _ => ?_, fun _ => ?_⟩ <;> (conv => whnf)) | fail))
  all_goals
    rename_i h
    exact ⟨.inl rfl, _, .refl _, congrArg (fun b => some (C.tup [Tx (cutP s p).1, Bo b])) h.symm⟩

def patV (s : Str) : Bool := if hasP s [42, 46] then hostV (s.drop 2) else s == [42] || hostV s

theorem pattern_sound (s : Str) (hs : s.length < 4611686018427387904) : SoundAt Try.prog 22 [] [Tx s] (Bo (patV s)) [] := by
  refine SoundAt.of_wpA1 (fn := Try.f22) Try.func22 rfl ?_
  conv => whnf
  refine ⟨_, _, (cutPre_sound s [42, 46]).frame rfl _, ?_⟩; (conv => whnf); (try (refine ⟨(rfl : (_ : Heap) = _), ?_⟩; (conv => whnf)))
  refine ⟨fun h => ?_, fun h => ?_⟩
  · have h1 : hasP s [42, 46] = true := by
      cases e : hasP s [42, 46] with
      | true => rfl
      | false => simp [cutP, e] at h
    have e : cutP s [42, 46] = (s.drop 2, true) := by unfold cutP; rw [if_pos h1]; rfl
    rw [e]
    (conv => whnf); (try (refine ⟨(rfl : (_ : Heap) = _), ?_⟩; (conv => whnf)))
    refine ⟨_, _, (host_sound (s.drop 2) (by simp; omega)).frame rfl _, ?_⟩; (conv => whnf); (try (refine ⟨(rfl : (_ : Heap) = _), ?_⟩; (conv => whnf)))
    (repeat' (first | (refine ⟨fun _ => ?_, fun _ => ?_⟩ <;> (conv => whnf)) | fail))
    all_goals (exact ⟨.inl rfl, _, .refl _, congrArg (fun b => some (C.v (Value.bool b))) (by simp_all [patV])⟩)
  · have h1 : hasP s [42, 46] = false := by
      cases e : hasP s [42, 46] with
      | false => rfl
      | true => simp [cutP, e] at h
    have e : cutP s [42, 46] = (s, false) := by unfold cutP; rw [if_neg (by simp [h1])]
    rw [e]
    (conv => whnf); (try (refine ⟨(rfl : (_ : Heap) = _), ?_⟩; (conv => whnf)))
    refine ⟨fun h2 => ?_, fun h2 => ?_⟩
    · (conv => whnf); (try (refine ⟨(rfl : (_ : Heap) = _), ?_⟩; (conv => whnf)))
      (exact ⟨.inl rfl, _, .refl _, congrArg (fun b => some (C.v (Value.bool b))) (by simp_all [patV])⟩)
    · (conv => whnf); (try (refine ⟨(rfl : (_ : Heap) = _), ?_⟩; (conv => whnf)))
      refine ⟨_, _, (host_sound s hs).frame rfl _, ?_⟩; (conv => whnf); (try (refine ⟨(rfl : (_ : Heap) = _), ?_⟩; (conv => whnf)))
      (repeat' (first | (refine ⟨fun _ => ?_, fun _ => ?_⟩ <;> (conv => whnf)) | fail))
      all_goals (exact ⟨.inl rfl, _, .refl _, congrArg (fun b => some (C.v (Value.bool b))) (by simp_all [patV])⟩)

end Go.Nam
