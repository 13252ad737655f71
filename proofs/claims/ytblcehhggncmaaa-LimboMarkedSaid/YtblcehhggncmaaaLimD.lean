/- Layer 16 (limbo): what is due, walked. -/
import Derived.Test.YtblcehhggncmaaaLimC
import Derived.Test.YtblcehhggncmaaaAbN
namespace Go.Lim
open Go.Ab Go.Proofs Go.Hy
set_option linter.unusedVariables false
set_option maxRecDepth 4000


def wfR (l : List Ret) : Prop := ∀ (i : Nat) (r : Ret), l[i]? = some r → -9223372036854775808 ≤ r.at_ ∧ r.at_ ≤ 9223372036854775807

def dueK (l : List Ret) (now : Int) (k : Nat) : List Nat := (List.range k).filter (dueQ l now)
theorem dueK_le (l : List Ret) (now : Int) (k : Nat) : (dueK l now k).length ≤ k := by
  have := List.length_filter_le (dueQ l now) (List.range k)
  simpa [dueK] using this
theorem dueK_yes {l : List Ret} {now : Int} {k : Nat} (h : dueQ l now k = true) : dueK l now (k + 1) = dueK l now k ++ [k] := by
  simp [dueK, List.range_succ, h]
theorem dueK_no {l : List Ret} {now : Int} {k : Nat} (h : dueQ l now k = false) : dueK l now (k + 1) = dueK l now k := by
  simp [dueK, List.range_succ, h]
theorem encN_own (l : List Nat) : ∀ r ∈ l.map encN, ∀ c ∈ r, noOwn c = true := by
  intro r hr c hc
  obtain ⟨n, _, rfl⟩ := List.mem_map.1 hr
  simp [encN] at hc
  subst hc
  rfl
theorem encN_own' (l : List Nat) : (l.map encN).all (·.all noOwn) = true := by
  simp only [List.all_eq_true]
  exact encN_own l

theorem due_sound {l : List Ret} {now : Int} (hl : l.length < 5864062014700) (hw : wfR l) : SoundAt Try.prog 31 [] [lR l, I now] (.lst 0 1 ((dueV l now).map encN)) [] := by
  refine SoundAt.of_wpA0 (fn := Try.f31) Try.func31 rfl ?_ rfl
  conv => whnf
  refine Loops.seq l.length (fun k => [lR l, I now, .junk, .junk, .lst 1 0 [], .gl 0 1 ((dueK l now k).map encN), .junk, .junk, lR l, I (l.map encR).length, I k, .junk, .junk, .junk, .junk, .junk, .junk, .junk, .junk, .junk, .junk, .junk, .junk, .junk, .junk, .junk, .junk, .junk, .junk, .junk]) (fun k => [⟨4, 3, 1, (dueK l now k).map encN, 0⟩]) (fun _ => True) ?_ trivial (fun k hk _ => ?_) (fun _ => ?_)
  · exact (Weak.grow 5 3 1 rfl (.inl rfl)).trans (Weak.cov (by (conv => whnf); (repeat (refine ⟨rfl, ?_⟩; (conv => whnf))); exact trivial))
  · conv => whnf
    have hle := dueK_le l now k
    have hlk : l[k]? = some l[k] := List.getElem?_eq_getElem hk
    refine ⟨fun h => ?_, fun h => ?_⟩
    · conv => whnf
      refine ⟨by omega, encR l[k], by simp [hk], ?_⟩
      conv => whnf
      refine ⟨fun hg => ?_, fun hg => ?_⟩
      · conv => whnf
        refine .inl ⟨rfl, ?_, trivial⟩
        rw [i64_nat (by omega), dueK_no (k := k) (by simp [dueQ, hlk, hg])]
        exact Weak.covD 1 (by (conv => whnf); (repeat (refine ⟨rfl, ?_⟩; (conv => whnf))); exact trivial) rfl rfl rfl rfl rfl
      · conv => whnf
        have hsafe := safe_sound (now := now) (hw k _ hlk).1 (hw k _ hlk).2
        refine ⟨_, _, hsafe.frame rfl _, ?_⟩
        conv => whnf
        refine ⟨fun hs => ?_, fun hs => ?_⟩
        · conv => whnf
          refine ⟨rfl, .inr rfl, by simp [maxLen]; omega, by show _ * 8 ≤ _; simp; omega, ?_⟩
          conv => whnf
          refine .inl ⟨rfl, ?_, trivial⟩
          rw [i64_nat (by omega), dueK_yes (k := k) (by simp [dueQ, hlk, hg, hs]), List.map_append]
          exact Weak.covD 1 (by (conv => whnf); (repeat (refine ⟨rfl, ?_⟩; (conv => whnf))); exact trivial) rfl rfl rfl rfl rfl
        · conv => whnf
          refine .inl ⟨rfl, ?_, trivial⟩
          rw [i64_nat (by omega), dueK_no (k := k) (by simp [dueQ, hlk, hg, hs])]
          exact Weak.covD 1 (by (conv => whnf); (repeat (refine ⟨rfl, ?_⟩; (conv => whnf))); exact trivial) rfl rfl rfl rfl rfl
    · simp at h; omega
  · conv => whnf
    refine ⟨fun h => ?_, fun h => ?_⟩
    · simp at h
    · conv => whnf
      refine ⟨by simp, ?_⟩
      conv => whnf
      exact ⟨.inl rfl, _, Weak.low 0 _ _ rfl rfl rfl, rfl⟩

end Go.Lim
