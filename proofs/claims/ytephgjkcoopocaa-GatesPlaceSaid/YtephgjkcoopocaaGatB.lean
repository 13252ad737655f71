/- Layer 17 (gates): what each function hands back, in the program and in the reference. -/
import Derived.Test.YtephgjkcoopocaaGatA
namespace Go.Gat
open Go.Ab Go.Proofs Go.Hy
set_option linter.unusedVariables false
set_option maxRecDepth 8000

abbrev Li (l : Lis) : C := .agg (encL l)
abbrev tB (r : Lis × Bool) : C := .tup [Li r.1, Bo r.2]
abbrev tE (r : Lis × Int) : C := .tup [Li r.1, I r.2]

def openV (l : Lis) : Bool := !l.drain && decide (l.active < 9223372036854775807)
def endsV (l : Lis) : Bool := l.drain && (l.active == 0) && !l.closed
def enterV (l : Lis) : Lis × Bool := if openV l then (⟨l.name, l.drain, l.active + 1, l.closed⟩, true) else (l, false)
def leaveV (l : Lis) : Lis × Int := if l.active < 1 then (⟨[], false, 0, false⟩, 5) else (⟨l.name, l.drain, l.active - 1, l.closed⟩, 0)
def drainV (l : Lis) : Lis := ⟨l.name, true, l.active, l.closed⟩
def closeV (l : Lis) : Lis × Bool := (⟨l.name, l.drain, l.active, l.closed || endsV l⟩, endsV l)
def isV (l : Lis) : Bool := nameV l.name && decide (0 ≤ l.active) && (l.drain || !l.closed)

theorem wrap_ok {n : Int} (h : i64 n) : IntKind.i64.wrap n = n := i64_ok h.1 h.2
theorem up_ok {n : Int} (h : i64 n) (h2 : n < 9223372036854775807) : i64 (n + 1) := by have := h.1; exact ⟨by omega, by omega⟩
theorem dn_ok {n : Int} (h : i64 n) (h2 : -9223372036854775808 < n) : i64 (n - 1) := by have := h.2; exact ⟨by omega, by omega⟩

theorem open_sound (l : Lis) : SoundAt Try.prog 76 [] [Li l] (Bo (openV l)) [] := by
  refine SoundAt.of_wpA1 (fn := Try.f76) Try.func76 rfl ?_
  conv => whnf
  (repeat' (first | (refine ⟨fun _ => ?_, fun _ => ?_⟩ <;> (conv => whnf)) | fail))
  all_goals (exact ⟨.inl rfl, _, .refl _, congrArg (fun b => some (C.v (Value.bool b))) (by simp_all [openV])⟩)
theorem ends_sound (l : Lis) : SoundAt Try.prog 77 [] [Li l] (Bo (endsV l)) [] := by
  refine SoundAt.of_wpA1 (fn := Try.f77) Try.func77 rfl ?_
  conv => whnf
  (repeat' (first | (refine ⟨fun _ => ?_, fun _ => ?_⟩ <;> (conv => whnf)) | fail))
  all_goals (exact ⟨.inl rfl, _, .refl _, congrArg (fun b => some (C.v (Value.bool b))) (by simp_all [endsV])⟩)

theorem enter_sound (l : Lis) (hl : l.ok) : SoundAt Try.prog 49 [] [Li l] (tB (enterV l)) [] := by
  refine SoundAt.of_wpA1 (fn := Try.f49) Try.func49 rfl ?_
  conv => whnf
  refine ⟨_, _, (open_sound l).frame rfl _, ?_⟩; (conv => whnf); (try (refine ⟨(rfl : (_ : Heap) = _), ?_⟩; (conv => whnf)))
  refine ⟨fun h => ?_, fun h => ?_⟩
  · conv => whnf
    have e : enterV l = (⟨l.name, l.drain, l.active + 1, l.closed⟩, true) := by unfold enterV; rw [if_pos h]
    rw [e, wrap_ok (up_ok hl.2 (by simp [openV] at h; omega))]
    exact ⟨.inl rfl, _, .refl _, rfl⟩
  · conv => whnf
    have e : enterV l = (l, false) := by unfold enterV; rw [if_neg (by simp [h])]
    rw [e]
    exact ⟨.inl rfl, _, .refl _, rfl⟩

theorem leave_sound (l : Lis) (hl : l.ok) : SoundAt Try.prog 52 [] [Li l] (tE (leaveV l)) [] := by
  refine SoundAt.of_wpA1 (fn := Try.f52) Try.func52 rfl ?_
  conv => whnf
  refine ⟨fun h => ?_, fun h => ?_⟩
  · conv => whnf
    have e : leaveV l = (⟨[], false, 0, false⟩, 5) := by unfold leaveV; rw [if_pos (by simpa using h)]
    rw [e]
    exact ⟨.inl rfl, _, .refl _, rfl⟩
  · conv => whnf
    have e : leaveV l = (⟨l.name, l.drain, l.active - 1, l.closed⟩, 0) := by unfold leaveV; rw [if_neg (by simpa using h)]
    rw [e, wrap_ok (dn_ok hl.2 (by simp at h; omega))]
    exact ⟨.inl rfl, _, .refl _, rfl⟩
theorem drain_sound (l : Lis) : SoundAt Try.prog 50 [] [Li l] (Li (drainV l)) [] := by
  refine SoundAt.of_wpA1 (fn := Try.f50) Try.func50 rfl ?_
  conv => whnf
  exact ⟨.inl rfl, _, .refl _, rfl⟩
theorem closeV_at {l : Lis} {b c : Bool} (h : endsV l = b) (h2 : (l.closed || b) = c) : closeV l = (⟨l.name, l.drain, l.active, c⟩, b) := by unfold closeV; rw [h, h2]

theorem close_sound (l : Lis) : SoundAt Try.prog 51 [] [Li l] (tB (closeV l)) [] := by
  refine SoundAt.of_wpA1 (fn := Try.f51) Try.func51 rfl ?_
  conv => whnf
  refine ⟨_, _, (ends_sound l).frame rfl _, ?_⟩; (conv => whnf); (try (refine ⟨(rfl : (_ : Heap) = _), ?_⟩; (conv => whnf)))
  refine ⟨fun h => ?_, fun h => ?_⟩
  · conv => whnf
    rw [closeV_at (c := true) h (by simp)]
    refine ⟨fun h2 => ?_, fun h2 => ?_⟩
    · conv => whnf
      exact ⟨.inl rfl, _, .refl _, rfl⟩
    · conv => whnf
      exact ⟨.inl rfl, _, .refl _, rfl⟩
  · conv => whnf
    refine ⟨fun h2 => ?_, fun h2 => ?_⟩
    · conv => whnf
      rw [closeV_at (c := true) h (by simp [h2])]
      exact ⟨.inl rfl, _, .refl _, rfl⟩
    · conv => whnf
      rw [closeV_at (c := false) h (by simp [h2])]
      exact ⟨.inl rfl, _, .refl _, rfl⟩
theorem is_sound (l : Lis) (hl : l.ok) : SoundAt Try.prog 53 [] [Li l] (Bo (isV l)) [] := by
  refine SoundAt.of_wpA1 (fn := Try.f53) Try.func53 rfl ?_
  conv => whnf
  refine ⟨_, _, (name_sound l.name (by have := hl.1; unfold reachBytes at this; omega)).frame rfl _, ?_⟩; (conv => whnf); (try (refine ⟨(rfl : (_ : Heap) = _), ?_⟩; (conv => whnf)))
  (repeat' (first | (refine ⟨fun _ => ?_, fun _ => ?_⟩ <;> (conv => whnf)) | fail))
  all_goals (exact ⟨.inl rfl, _, .refl _, congrArg (fun b => some (C.v (Value.bool b))) (by simp_all [isV] <;> (intros; omega))⟩)
end Go.Gat
