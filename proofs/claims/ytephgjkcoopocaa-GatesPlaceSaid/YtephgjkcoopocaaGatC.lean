/- Layer 17 (gates): the first listener of a name. -/
import Derived.Test.YtephgjkcoopocaaGatB
namespace Go.Gat
open Go.Ab Go.Proofs Go.Hy
set_option linter.unusedVariables false
set_option maxRecDepth 8000


theorem same_name (s : Str) (l : Lis) : SoundAt Try.prog 48 [⟨1, 9, 1, [[Tx s]], 0⟩] [Li l, .ref 0 [] 1 0 0] (Bo (l.name == s)) [⟨1, 9, 1, [[Tx s]], 0⟩] := by
  refine SoundAt.of_wpA (fn := Try.f48) Try.func48 rfl ?_
  conv => whnf
  refine ⟨fun h => ?_, fun h => ?_⟩ <;> rw [h]
  · conv => whnf
    exact ⟨.inl rfl, _, Weak.keep [3] 1 _ _ rfl rfl rfl rfl, rfl, rfl⟩
  · conv => whnf
    exact ⟨.inl rfl, _, Weak.keep [3] 1 _ _ rfl rfl rfl rfl, rfl, rfl⟩

theorem idxL_sound {H : Heap} {f : FuncId} {caps : List C} {l : List Lis} (p : Lis → Bool) (hcb : callable Try.prog f = true) (hp : ∀ r, SoundAt Try.prog f H ([Li r] ++ caps) (Bo (p r)) H) (hl : l.length < 4611686018427387904) :
    SoundAt Try.prog 47 H [lL l, .fn f [] caps] (I (match l.findIdx? p with | some i => (i : Int) | none => -1)) H := by
  refine SoundAt.of_wpA (fn := Try.f47) Try.func47 rfl ?_
  conv => whnf
  refine Loops.inv (fun n t1 H1 => ∃ k, k + n = l.length ∧ H1 = H ∧ (∀ j, j < k → ∀ r, l[j]? = some r → p r = false) ∧
     t1 = [lL l, .fn f [] caps, .junk, .junk, I 0, .junk, .junk, I (l.map encL).length, I k, .junk, .junk, .junk, .junk, .junk, .junk, .junk, .junk, .junk, .junk]) l.length ?_ ?_
  · exact ⟨_, _, Weak.mask [0, 1, 4, 7, 8] _ _, 0, by simp, rfl, by simp, rfl⟩
  rintro n _ _ ⟨k, hk, rfl, hno, rfl⟩
  conv => whnf
  refine ⟨fun h => ?_, fun h => ?_⟩
  · conv => whnf
    have hlt : k < l.length := by simpa using h
    refine ⟨by omega, encL l[k], by simp [hlt], ?_⟩
    conv => whnf
    rw [hcb]
    refine ⟨_, _, hp _, ?_⟩
    conv => whnf
    refine ⟨fun h2 => ?_, fun h2 => ?_⟩
    · conv => whnf
      refine .inr ⟨by simp, ?_⟩
      conv => whnf
      refine ⟨.inl rfl, _, .refl _, rfl, ?_⟩
      have : l.findIdx? p = some k := by
        rw [List.findIdx?_eq_some_iff_getElem]
        refine ⟨hlt, h2, fun j hj => ?_⟩
        simp [hno j hj _ (List.getElem?_eq_getElem (by omega))]
      rw [this]
      rfl
    · conv => whnf
      refine .inl ⟨rfl, n - 1, _, _, by omega, Weak.mask [0, 1, 4, 7, 8] _ _, k + 1, by omega, rfl, ?_, ?_⟩
      · intro j hj r hr
        by_cases hjk : j = k
        · subst hjk
          rw [List.getElem?_eq_getElem hlt] at hr
          cases hr
          exact h2
        · exact hno j (by omega) r hr
      · rw [i64_nat (by omega)]; rfl
  · conv => whnf
    refine .inr ⟨by simp, ?_⟩
    conv => whnf
    refine ⟨.inl rfl, _, .refl _, rfl, ?_⟩
    have : l.findIdx? p = none := by
      rw [List.findIdx?_eq_none_iff]
      intro x hx
      obtain ⟨j, hj⟩ := List.mem_iff_getElem?.1 hx
      have hjl := (List.getElem?_eq_some_iff.1 hj).1
      have : ¬ k < l.length := by simpa using h
      exact hno j (by omega) x hj
    rw [this]
    rfl

/-- The first listener of a name, or −1. -/
def placeV (l : List Lis) (s : Str) : Int := match l.findIdx? (fun r => r.name == s) with | some i => (i : Int) | none => -1

theorem place_sound (l : List Lis) (s : Str) (hl : l.length < 4611686018427387904) : SoundAt Try.prog 15 [] [lL l, Tx s] (I (placeV l s)) [] := by
  refine SoundAt.of_wpA1 (fn := Try.f15) Try.func15 rfl ?_
  conv => whnf
  refine ⟨_, _, idxL_sound (fun r => r.name == s) rfl (fun r => same_name s r) hl, ?_⟩
  conv => whnf
  exact ⟨.inl rfl, _, .refl _, rfl⟩

end Go.Gat
