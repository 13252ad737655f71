/- Layer 16 (limbo): what is due. -/
import Derived.Test.YtblcehhggncmaaaLimB
import Derived.Test.YtblcehhggncmaaaAbK
namespace Go.Lim
open Go.Ab Go.Proofs Go.Hy
set_option linter.unusedVariables false
set_option maxRecDepth 4000


def safeV (a now : Int) : Bool := decide (a ≤ 9223372036854775805) && decide (a + 2 ≤ now)

theorem safe_sound {a now : Int} (h0 : -9223372036854775808 ≤ a) (h1 : a ≤ 9223372036854775807) : SoundAt Try.prog 51 [] [I a, I now] (Bo (safeV a now)) [] := by
  refine SoundAt.of_wpA0 (fn := Try.f51) Try.func51 rfl ?_ rfl
  conv => whnf
  refine ⟨fun h => ?_, fun h => ?_⟩
  · conv => whnf
    have hle : a ≤ 9223372036854775805 := by simpa using h
    have e : IntKind.i64.wrap (a + 2) = a + 2 := i64_ok (by omega) (by omega)
    refine ⟨fun h2 => ?_, fun h2 => ?_⟩
    · conv => whnf
      rw [e] at h2
      exact ⟨.inl rfl, _, .refl _, by simp only [safeV]; rw [h, h2]; rfl⟩
    · conv => whnf
      rw [e] at h2
      exact ⟨.inl rfl, _, .refl _, by simp only [safeV]; rw [h, h2]; rfl⟩
  · conv => whnf
    exact ⟨.inl rfl, _, .refl _, by simp only [safeV]; rw [h]; rfl⟩

theorem top_sound : SoundAt Try.prog 61 [] [] (I 9223372036854775807) [] := by
  refine SoundAt.of_wpA0 (fn := Try.f61) Try.func61 rfl ?_ rfl
  conv => whnf
  exact ⟨.inl rfl, _, .refl _, rfl⟩

theorem rsafe_sound {a now : Int} (h0 : -9223372036854775808 ≤ a) (h1 : a ≤ 9223372036854775807) : SoundAt Try.prog 52 [] [I a, I now] (Bo (safeV a now)) [] := by
  refine SoundAt.of_wpA0 (fn := Try.f52) Try.func52 rfl ?_ rfl
  conv => whnf
  refine ⟨_, _, top_sound.frame rfl _, ?_⟩
  conv => whnf
  have e0 : IntKind.i64.wrap (9223372036854775807 - 2) = 9223372036854775805 := i64_ok (by omega) (by omega)
  refine ⟨fun h => ?_, fun h => ?_⟩
  · conv => whnf
    have h' : decide (a ≤ 9223372036854775805) = true := h
    have hle : a ≤ 9223372036854775805 := by simpa using h'
    have e : IntKind.i64.wrap (a + 2) = a + 2 := i64_ok (by omega) (by omega)
    refine ⟨fun h2 => ?_, fun h2 => ?_⟩
    · conv => whnf
      rw [e] at h2
      have h3 : decide (a + 2 ≤ now) = true := by simpa using h2
      exact ⟨.inl rfl, _, .refl _, by simp only [safeV]; rw [h', h3]; rfl⟩
    · conv => whnf
      rw [e] at h2
      have h3 : decide (a + 2 ≤ now) = false := by simpa using h2
      exact ⟨.inl rfl, _, .refl _, by simp only [safeV]; rw [h', h3]; rfl⟩
  · conv => whnf
    have h' : decide (a ≤ 9223372036854775805) = false := h
    exact ⟨.inl rfl, _, .refl _, by simp only [safeV]; rw [h']; rfl⟩

def dueQ (l : List Ret) (now : Int) (i : Nat) : Bool := match l[i]? with
  | some r => !r.gone && safeV r.at_ now
  | none => false
def dueV (l : List Ret) (now : Int) : List Nat := (List.range l.length).filter (dueQ l now)
def encN (i : Nat) : List C := [I i]

end Go.Lim
