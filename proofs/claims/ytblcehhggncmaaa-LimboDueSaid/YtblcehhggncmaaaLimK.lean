/- Layer 16 (limbo): Mark and the reference's Mark, walked. -/
import Derived.Test.YtblcehhggncmaaaLimJ
namespace Go.Lim
open Go.Ab Go.Proofs Go.Hy
set_option linter.unusedVariables false
set_option maxRecDepth 4000

/-- What Mark hands back. -/
def markV (l : List Ret) (i : Int) : List Ret × Int :=
  if isV l = false then ([], 1) else
    match (if i < 0 then none else l[i.toNat]?) with
    | none => ([], 5)
    | some r => if r.gone then ([], 5) else (l.set i.toNat ⟨r.version, r.at_, true⟩, 0)

theorem markV_err {l : List Ret} {i : Int} (h : isV l = false) : markV l i = ([], 1) := by simp [markV, h]
theorem markV_neg {l : List Ret} {i : Int} (h0 : isV l = true) (h : i < 0) : markV l i = ([], 5) := by simp [markV, h, h0]
theorem markV_far {l : List Ret} {i : Int} (h0 : isV l = true) (h : (l.length : Int) ≤ i) : markV l i = ([], 5) := by
  have e : l[i.toNat]? = none := List.getElem?_eq_none (by omega)
  simp [markV, h0, e]
theorem markV_gone {l : List Ret} {k : Nat} (h0 : isV l = true) (hk : k < l.length) (h : l[k].gone = true) : markV l k = ([], 5) := by
  have : ¬ ((k : Int) < 0) := by omega
  simp [markV, h0, hk, h, this]
theorem markV_yes {l : List Ret} {k : Nat} (h0 : isV l = true) (hk : k < l.length) (h : l[k].gone = false) : markV l k = (l.set k ⟨l[k].version, l[k].at_, true⟩, 0) := by
  have : ¬ ((k : Int) < 0) := by omega
  simp [markV, h0, hk, h, this]

theorem mark_sound {l : List Ret} {i : Int} (hi : i64 i) (hl : l.length < 5864062014700) : SoundAt Try.prog 26 [] [lR l, I i] (two (markV l i)) [] := by
  refine SoundAt.of_wpA0 (fn := Try.f26) Try.func26 rfl ?_ rfl
  conv => whnf
  refine ⟨_, _, (is_sound (l := l) (by omega)).frame rfl _, ?_⟩
  conv => whnf
  refine ⟨fun h1 => ?_, fun h1 => ?_⟩
  rotate_left
  · conv => whnf
    rw [markV_err h1]
    exact ⟨.inl rfl, _, Weak.cell 4 rfl (WC.nil 0 3), rfl⟩
  conv => whnf
  refine ⟨fun h2 => ?_, fun h2 => ?_⟩
  · conv => whnf
    rw [markV_neg h1 (by simpa using h2)]
    exact ⟨.inl rfl, _, Weak.cell 4 rfl (WC.nil 0 3), rfl⟩
  conv => whnf
  refine ⟨fun h3 => ?_, fun h3 => ?_⟩
  · conv => whnf
    rw [markV_far h1 (by simpa using h3)]
    exact ⟨.inl rfl, _, Weak.cell 4 rfl (WC.nil 0 3), rfl⟩
  obtain ⟨k, rfl⟩ : ∃ k : Nat, i = k := ⟨i.toNat, by simp at h2; omega⟩
  have hk : k < l.length := by simpa using h3
  conv => whnf
  refine ⟨by omega, encR l[k], by simp [hk], ?_⟩
  conv => whnf
  refine ⟨fun h4 => ?_, fun h4 => ?_⟩
  · conv => whnf
    rw [markV_gone h1 hk h4]
    exact ⟨.inl rfl, _, Weak.cell 4 rfl (WC.nil 0 3), rfl⟩
  conv => whnf
  refine ⟨by omega, encR l[k], by simp [hk], ?_⟩
  conv => whnf
  refine .inl ⟨by kernel_rfl, ?_⟩; (conv => whnf)
  conv => whnf
  refine ⟨.inr rfl, by omega, by omega, rfl, by omega, by simp; omega, ?_⟩
  conv => whnf
  refine .inl ⟨.inr rfl, .inr rfl, by simp [maxLen]; omega, by show _ * 24 ≤ _; simp; omega, ?_⟩
  conv => whnf
  rw [i64_nat (by omega)]
  refine ⟨.inr rfl, by omega, by simp; omega, ?_⟩
  conv => whnf
  refine ⟨rfl, .inr rfl, by simp [maxLen]; omega, by show _ * 24 ≤ _; simp; omega, ?_⟩
  conv => whnf
  refine ⟨.inl rfl, _, Weak.low 0 _ _ rfl rfl rfl, ?_⟩
  rw [markV_yes h1 hk (by simpa using h4)]
  have e : List.take ((k : Int).toNat - 0) (List.drop 0 (l.map encR)) ++ [[I l[k].version, I l[k].at_, Bo true]] ++ List.drop (((k + 1 : Nat) : Int).toNat) (l.map encR) = (l.set k ⟨l[k].version, l[k].at_, true⟩).map encR := by
    rw [List.set_eq_take_append_cons_drop, if_pos hk]
    simp [List.map_take, List.map_drop, encR]
  show _ = some (C.tup [.lst 0 3 ((l.set k ⟨l[k].version, l[k].at_, true⟩).map encR), I 0])
  rw [← e]
  rfl

theorem rmark_sound {l : List Ret} {i : Int} (hi : i64 i) (hl : l.length < 5864062014700) : SoundAt Try.prog 27 [] [lR l, I i] (two (markV l i)) [] := by
  refine SoundAt.of_wpA0 (fn := Try.f27) Try.func27 rfl ?_ rfl
  conv => whnf
  refine ⟨_, _, (ris_sound (l := l) (by omega)).frame rfl _, ?_⟩
  conv => whnf
  refine ⟨fun h1 => ?_, fun h1 => ?_⟩
  rotate_left
  · conv => whnf
    rw [markV_err h1]
    exact ⟨.inl rfl, _, Weak.cell 4 rfl (WC.nil 0 3), rfl⟩
  conv => whnf
  refine ⟨fun h2 => ?_, fun h2 => ?_⟩
  · conv => whnf
    rw [markV_neg h1 (by simpa using h2)]
    exact ⟨.inl rfl, _, Weak.cell 4 rfl (WC.nil 0 3), rfl⟩
  conv => whnf
  refine ⟨fun h3 => ?_, fun h3 => ?_⟩
  · conv => whnf
    rw [markV_far h1 (by simpa using h3)]
    exact ⟨.inl rfl, _, Weak.cell 4 rfl (WC.nil 0 3), rfl⟩
  obtain ⟨k, rfl⟩ : ∃ k : Nat, i = k := ⟨i.toNat, by simp at h2; omega⟩
  have hk : k < l.length := by simpa using h3
  conv => whnf
  refine ⟨by omega, encR l[k], by simp [hk], ?_⟩
  conv => whnf
  refine ⟨fun h4 => ?_, fun h4 => ?_⟩
  · conv => whnf
    rw [markV_gone h1 hk h4]
    exact ⟨.inl rfl, _, Weak.cell 4 rfl (WC.nil 0 3), rfl⟩
  have hz : (encR l[k]).length = 3 := rfl
  have hrow : (l.map encR)[0 + k]? = some (encR l[k]) := by simp [hk]
  obtain ⟨r', rs', e⟩ : ∃ r' rs', l.map encR = r' :: rs' := by
    cases l with
    | nil => simp at hk
    | cons r rs => exact ⟨_, _, rfl⟩
  have hle : rs'.length + 1 = l.length := by have := congrArg List.length e; simpa using this.symm
  rw [e] at hrow
  conv => whnf
  refine .inr ?_
  rw [e]
  conv => whnf
  refine ⟨.inl rfl, by simp [maxLen]; omega, by show (_ + (_ + 1)) * 24 ≤ _; simp; omega, ?_⟩
  conv => whnf
  refine ⟨by omega, by simp; omega, ?_⟩
  conv => whnf
  refine ⟨_, hrow, rfl, ?_⟩
  conv => whnf
  have e2 : ([] ++ r' :: rs').set (0 + (k : Int).toNat) [I l[k].version, I l[k].at_, Bo true] = (l.set k ⟨l[k].version, l[k].at_, true⟩).map encR := by
    rw [List.nil_append, ← e, List.map_set]
    simp [encR]
  rw [e2, markV_yes h1 hk (by simpa using h4)]
  refine ⟨.inl rfl, _, (Weak.freezeA 4 rfl rfl (by simp; omega) (encR_own _)).trans (Weak.low 0 _ _ rfl rfl rfl), rfl⟩

end Go.Lim
