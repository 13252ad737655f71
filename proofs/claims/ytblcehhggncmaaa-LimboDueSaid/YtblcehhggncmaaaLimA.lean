/- Layer 16 (limbo): what each function hands back, over abstract states. -/
import Derived.Test.YtblcehhggncmaaaAbN
import Derived.Test.YtblcehhggncmaaaApi
import Derived.Test.YtblcehhggncmaaaProg
namespace Go.Lim
open Go.Ab Go.Proofs Go.Hy
set_option linter.unusedVariables false
set_option maxRecDepth 4000




theorem f60_sound (v : Int) (r : Ret) : SoundAt Try.prog 60 [⟨1, 3, 1, [[I v]], 0⟩] [.agg (encR r), .ref 0 [] 1 0 0] (Bo (r.version == v)) [⟨1, 3, 1, [[I v]], 0⟩] := by
  refine SoundAt.of_wpA (fn := Try.f60) Try.func60 rfl ?_
  conv => whnf
  refine ⟨fun h => ?_, fun h => ?_⟩ <;> rw [h]
  · conv => whnf
    exact ⟨.inl rfl, _, Weak.keep [3] 1 _ _ rfl rfl rfl rfl, rfl, rfl⟩
  · conv => whnf
    exact ⟨.inl rfl, _, Weak.keep [3] 1 _ _ rfl rfl rfl rfl, rfl, rfl⟩

theorem idx_sound {H : Heap} {f : FuncId} {caps : List C} {l : List Ret} (p : Ret → Bool) (hcb : callable Try.prog f = true) (hp : ∀ r, SoundAt Try.prog f H ([.agg (encR r)] ++ caps) (Bo (p r)) H) (hl : l.length < 4611686018427387904) :
    SoundAt Try.prog 67 H [lR l, .fn f [] caps] (I (match l.findIdx? p with | some i => (i : Int) | none => -1)) H := by
  refine SoundAt.of_wpA (fn := Try.f67) Try.func67 rfl ?_
  conv => whnf
  refine Loops.inv (fun n t1 H1 => ∃ k, k + n = l.length ∧ H1 = H ∧ (∀ j, j < k → ∀ r, l[j]? = some r → p r = false) ∧
     t1 = [lR l, .fn f [] caps, .junk, .junk, I 0, .junk, .junk, I (l.map encR).length, I k, .junk, .junk, .junk, .junk, .junk, .junk, .junk, .junk, .junk, .junk]) l.length ?_ ?_
  · exact ⟨_, _, Weak.mask [0, 1, 4, 7, 8] _ _, 0, by simp, rfl, by simp, rfl⟩
  rintro n _ _ ⟨k, hk, rfl, hno, rfl⟩
  conv => whnf
  refine ⟨fun h => ?_, fun h => ?_⟩
  · conv => whnf
    have hlt : k < l.length := by simpa using h
    refine ⟨by omega, encR l[k], by simp [hlt], ?_⟩
    conv => whnf
    rw [hcb]
    refine ⟨_, _, hp _, ?_⟩
    conv => whnf
    refine ⟨fun h2 => ?_, fun h2 => ?_⟩
    · conv => whnf
      refine .inr ⟨by simp, ?_⟩
      conv => whnf
      refine ⟨.inl rfl, _, .refl _, rfl, ?_⟩
      have : l.findIdx? p = some k := by
        rw [List.findIdx?_eq_some_iff_getElem]
        refine ⟨hlt, h2, fun j hj => ?_⟩
        simp [hno j hj _ (List.getElem?_eq_getElem (by omega))]
      rw [this]
      rfl
    · conv => whnf
      refine .inl ⟨rfl, n - 1, _, _, by omega, Weak.mask [0, 1, 4, 7, 8] _ _, k + 1, by omega, rfl, ?_, ?_⟩
      · intro j hj r hr
        by_cases hjk : j = k
        · subst hjk
          rw [List.getElem?_eq_getElem hlt] at hr
          cases hr
          exact h2
        · exact hno j (by omega) r hr
      · rw [i64_nat (by omega)]; rfl
  · conv => whnf
    refine .inr ⟨by simp, ?_⟩
    conv => whnf
    refine ⟨.inl rfl, _, .refl _, rfl, ?_⟩
    have : l.findIdx? p = none := by
      rw [List.findIdx?_eq_none_iff]
      intro x hx
      obtain ⟨j, hj⟩ := List.mem_iff_getElem?.1 hx
      have hjl := (List.getElem?_eq_some_iff.1 hj).1
      have : ¬ k < l.length := by simpa using h
      exact hno j (by omega) x hj
    rw [this]
    rfl

theorem con_sound {H : Heap} {f : FuncId} {caps : List C} {l : List Ret} (p : Ret → Bool) (hcb : callable Try.prog f = true) (hp : ∀ r, SoundAt Try.prog f H ([.agg (encR r)] ++ caps) (Bo (p r)) H) (hl : l.length < 4611686018427387904) :
    SoundAt Try.prog 59 H [lR l, .fn f [] caps] (Bo (l.any p)) H := by
  refine SoundAt.of_wpA (fn := Try.f59) Try.func59 rfl ?_
  conv => whnf
  refine ⟨_, _, idx_sound p hcb hp hl, ?_⟩
  conv => whnf
  have e : (match l.findIdx? p with | some i => (i : Int) | none => -1) ≥ 0 ↔ l.any p = true := by
    cases h : l.findIdx? p with
    | none =>
      rw [List.findIdx?_eq_none_iff] at h
      simp
      intro x hx
      simp [h x hx]
    | some i =>
      rw [List.findIdx?_eq_some_iff_getElem] at h
      obtain ⟨h1, h2, _⟩ := h
      simp
      exact ⟨_, List.getElem_mem h1, h2⟩
  refine ⟨fun h => ?_, fun h => ?_⟩
  · conv => whnf
    refine ⟨.inl rfl, _, .refl _, rfl, ?_⟩
    rw [e.1 (by simpa using h)]
    rfl
  · conv => whnf
    refine ⟨.inl rfl, _, .refl _, rfl, ?_⟩
    have : l.any p = false := by
      rw [Bool.eq_false_iff]
      intro h2
      have := e.2 h2
      simp at h
      omega
    rw [this]
    rfl

def hasV (l : List Ret) (v : Int) : Bool := l.any (·.version == v)

theorem has_sound {l : List Ret} {v : Int} (hl : l.length < 4611686018427387904) : SoundAt Try.prog 49 [] [lR l, I v] (Bo (hasV l v)) [] := by
  refine SoundAt.of_wpA0 (fn := Try.f49) Try.func49 rfl ?_ rfl
  conv => whnf
  refine ⟨_, _, con_sound (fun r => r.version == v) rfl (fun r => f60_sound v r) hl, ?_⟩
  conv => whnf
  refine ⟨fun h => ?_, fun h => ?_⟩
  · conv => whnf
    refine ⟨.inl rfl, _, .refl _, ?_⟩
    unfold hasV
    rw [h]
    rfl
  · conv => whnf
    refine ⟨.inl rfl, _, .refl _, ?_⟩
    unfold hasV
    rw [h]
    rfl

end Go.Lim
