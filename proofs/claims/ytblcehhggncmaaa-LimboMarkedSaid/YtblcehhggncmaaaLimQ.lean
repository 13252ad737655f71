/- Layer 16 (limbo): the statement LimboMarked, walked. -/
import Derived.Test.YtblcehhggncmaaaLimP
namespace Go.Lim
open Go.Ab Go.Proofs Go.Hy
set_option linter.unusedVariables false
set_option maxRecDepth 8000

theorem markV_ok {l : List Ret} {i : Int} (h : (markV l i).2 = 0) : ∃ k : Nat, ∃ hk : k < l.length, i = k ∧ isV l = true ∧ l[k].gone = false ∧ markV l i = (l.set k ⟨l[k].version, l[k].at_, true⟩, 0) := by
  cases hv : isV l with
  | false => rw [markV_err hv] at h; cases h
  | true =>
    by_cases h0 : i < 0
    · rw [markV_neg hv h0] at h; cases h
    · by_cases h1 : (l.length : Int) ≤ i
      · rw [markV_far hv h1] at h; cases h
      · obtain ⟨k, rfl⟩ : ∃ k : Nat, i = k := ⟨i.toNat, by omega⟩
        have hk : k < l.length := by omega
        cases hg : l[k].gone with
        | true => rw [markV_gone hv hk hg] at h; cases h
        | false => exact ⟨k, hk, rfl, rfl, hg, markV_yes hv hk hg⟩

theorem hasV_take_set {l : List Ret} {k i : Nat} (hk : k < l.length) (v : Int) (g : Bool) : hasV ((l.set k ⟨l[k].version, l[k].at_, g⟩).take i) v = hasV (l.take i) v := by
  have e : ∀ m : List Ret, hasV m v = (m.map (·.version)).any (· == v) := fun m => by simp [hasV, List.any_map, Function.comp_def]
  rw [e, e, List.map_take, List.map_take, List.map_set]
  congr 2
  apply List.ext_getElem?
  intro j
  rw [List.getElem?_set]
  split
  · rename_i e; subst e; simp [hk]
  · rfl

theorem isV_set {l : List Ret} {k : Nat} (hk : k < l.length) (g : Bool) (h : isV l = true) : isV (l.set k ⟨l[k].version, l[k].at_, g⟩) = true := by
  rw [isV_iff] at h ⊢
  intro i hi
  have hi' : i < l.length := by simpa using hi
  have := h i hi'
  unfold okV at this ⊢
  rw [hasV_take_set hk]
  rw [List.getElem_set]
  split
  · rename_i e; subst e; exact this
  · exact this

/-- Another one. -/
def neK (m i : Nat) : Bool := decide (i ≠ m)
theorem ints_append (a b : List Nat) : ints (a ++ b) = ints a ++ ints b := List.map_append

theorem dueV_set {l : List Ret} {k : Nat} (hk : k < l.length) (now : Int) : dueV (l.set k ⟨l[k].version, l[k].at_, true⟩) now = (dueV l now).filter (neK k) := by
  unfold dueV
  rw [List.filter_filter, List.length_set]
  apply List.filter_congr
  intro i hi
  unfold dueQ
  rw [List.getElem?_set]
  by_cases e : k = i
  · subst e; simp [hk, neK]
  · rw [if_neg e]
    have : neK k i = true := by simp [neK]; omega
    rw [this, Bool.true_and]

theorem marked_sound {l : List Ret} {i now : Int} (hl : okL l) (hi : i64 i) : SoundAt Try.prog 11 [] [lR l, I i, I now] (Bo true) [] := by
  have hn := hl.len
  have hw := hl.wf
  refine SoundAt.of_wpA0 (fn := Try.f11) Try.func11 rfl ?_ rfl
  conv => whnf
  refine ⟨_, _, (mark_sound hi hn).frame rfl _, ?_⟩; (conv => whnf); (try (refine ⟨(rfl : (_ : Heap) = _), ?_⟩; (conv => whnf)))
  refine ⟨fun h0 => ?_, fun h0 => ?_⟩
  · conv => whnf
    refine ⟨_, _, (gone_sound).frame rfl _, ?_⟩; (conv => whnf); (try (refine ⟨(rfl : (_ : Heap) = _), ?_⟩; (conv => whnf)))
    (repeat (first | (refine ⟨fun _ => ?_, fun h => absurd h (by decide)⟩; (conv => whnf); (try (refine ⟨(rfl : (_ : Heap) = _), ?_⟩; (conv => whnf)))) | (refine ⟨fun h => absurd h (by decide), fun _ => ?_⟩; (conv => whnf); (try (refine ⟨(rfl : (_ : Heap) = _), ?_⟩; (conv => whnf))))))
    exact ⟨.inl rfl, _, .refl _, rfl⟩
  conv => whnf
  refine ⟨fun h1 => ?_, fun h1 => ?_⟩
  · conv => whnf
    refine ⟨_, _, (gone_sound).frame rfl _, ?_⟩; (conv => whnf); (try (refine ⟨(rfl : (_ : Heap) = _), ?_⟩; (conv => whnf)))
    (repeat (first | (refine ⟨fun _ => ?_, fun h => absurd h (by decide)⟩; (conv => whnf); (try (refine ⟨(rfl : (_ : Heap) = _), ?_⟩; (conv => whnf)))) | (refine ⟨fun h => absurd h (by decide), fun _ => ?_⟩; (conv => whnf); (try (refine ⟨(rfl : (_ : Heap) = _), ?_⟩; (conv => whnf))))))
    exact ⟨.inl rfl, _, .refl _, rfl⟩
  have hs : l.length ≤ 100 := by simp at h0; omega
  obtain ⟨m, hm, rfl, hv, hg, he⟩ := markV_ok (i := i) (by simpa using h1)
  rw [he]
  conv => whnf
  refine ⟨_, _, (dueC (l := l) (now := now) (r := ints (dueV l now)) rfl hn hw).frame rfl _, ?_⟩; (conv => whnf); (try (refine ⟨(rfl : (_ : Heap) = _), ?_⟩; (conv => whnf)))
  have hbl := dueV_le l now
  have hds := dueV_set hm now
  obtain ⟨b, hb⟩ : ∃ b, b = dueV l now := ⟨_, rfl⟩
  rw [← hb] at hbl hds ⊢
  refine Loops.seq b.length (fun k => [lR l, I (m : Nat), I now, .junk, .junk, .junk, Bo false, lR (l.set m ⟨l[m].version, l[m].at_, true⟩), .junk, lI (ints b), .gl 0 1 ((ints ((b.take k).filter (neK m))).map encI), I k, .junk, .junk, .junk, .junk, .junk, .junk, .junk, .junk, .junk, .junk, .junk, .junk, .junk, .junk, .junk, .junk, .junk, .junk, .junk, .junk, .junk, .junk, .junk, .junk, .junk, .junk, .junk, .junk, .junk, .junk, .junk, .junk, .junk, .junk, .junk, .junk, .junk, .junk, .junk, .junk, .junk, .junk, .junk, .junk, .junk, .junk, .junk, .junk, .junk, .junk, .junk, .junk, .junk, .junk, .junk, .junk]) (fun k => [⟨4, 3, 1, (ints ((b.take k).filter (neK m))).map encI, 0⟩]) (fun _ => True) ?_ trivial (fun k hk _ => ?_) (fun _ => ?_)
  · exact (Weak.grow 10 3 1 rfl (.inl rfl)).trans (Weak.cov (by (conv => whnf); (repeat (refine ⟨rfl, ?_⟩; (conv => whnf))); exact trivial))
  · have hbk : (ints b)[k]? = some (b[k] : Int) := by simp [hk]
    have hc : ((b.take k).filter (neK m)).length ≤ k := cntK_le _ b k
    have hsu : (b.take (k + 1)).filter (neK m) = (b.take k).filter (neK m) ++ if neK m b[k] = true then [b[k]] else [] := by
      rw [List.take_succ_eq_append_getElem hk, List.filter_append, List.filter_cons]; rfl
    conv => whnf
    refine ⟨fun h => ?_, fun h => absurd h (by simp; omega)⟩
    conv => whnf
    refine ⟨by omega, encI (b[k] : Int), by rw [toNat_cast, List.getElem?_map, hbk]; rfl, ?_⟩
    conv => whnf
    refine ⟨fun h2 => ?_, fun h2 => ?_⟩
    · conv => whnf
      refine ⟨by omega, encI (b[k] : Int), by rw [toNat_cast, List.getElem?_map, hbk]; rfl, ?_⟩
      conv => whnf
      refine ⟨rfl, .inr rfl, by simp [maxLen]; omega, by show _ * 8 ≤ _; simp; omega, ?_⟩
      conv => whnf
      refine .inl ⟨rfl, ?_, trivial⟩
      rw [i64_nat (by omega), hsu, if_pos (by simp [neK] at h2 ⊢; omega), ints_append, List.map_append]
      exact Weak.covD 1 (by (conv => whnf); (repeat (refine ⟨rfl, ?_⟩; (conv => whnf))); exact trivial) rfl rfl rfl rfl rfl
    · conv => whnf
      refine .inl ⟨rfl, ?_, trivial⟩
      rw [i64_nat (by omega), hsu, if_neg (by simp [neK] at h2 ⊢; omega), List.append_nil]
      exact Weak.covD 1 (by (conv => whnf); (repeat (refine ⟨rfl, ?_⟩; (conv => whnf))); exact trivial) rfl rfl rfl rfl rfl
  · have hc : ((b.take b.length).filter (neK m)).length ≤ b.length := cntK_le _ b b.length
    rw [List.take_length] at hc ⊢
    rw [← hds] at hc ⊢
    conv => whnf
    refine ⟨fun h => absurd h (by simp), fun h => ?_⟩
    conv => whnf
    refine ⟨by simp, ?_⟩
    conv => whnf
    refine ⟨_, _, (gone_sound).frame rfl _, ?_⟩; (conv => whnf); (try (refine ⟨(rfl : (_ : Heap) = _), ?_⟩; (conv => whnf)))
    (repeat (first | (refine ⟨fun _ => ?_, fun h => absurd h (by decide)⟩; (conv => whnf); (try (refine ⟨(rfl : (_ : Heap) = _), ?_⟩; (conv => whnf)))) | (refine ⟨fun h => absurd h (by decide), fun _ => ?_⟩; (conv => whnf); (try (refine ⟨(rfl : (_ : Heap) = _), ?_⟩; (conv => whnf))))))
    have hwm : wfR (l.set m ⟨l[m].version, l[m].at_, true⟩) := by
      intro j r hr
      rw [List.getElem?_set] at hr
      split at hr
      · cases hr; exact (hl.1 _ (List.getElem_mem hm)).2
      · exact hw j r hr
    refine ⟨_, _, (dueC (l := l.set m ⟨l[m].version, l[m].at_, true⟩) (now := now) rfl (by simp; omega) hwm).frame rfl _, ?_⟩; (conv => whnf); (try (refine ⟨(rfl : (_ : Heap) = _), ?_⟩; (conv => whnf)))
    refine ⟨_, _, (same2_sound (by simp; omega)).frame rfl _, ?_⟩; (conv => whnf); (try (refine ⟨(rfl : (_ : Heap) = _), ?_⟩; (conv => whnf)))
    refine ⟨fun _ => ?_, fun h => absurd h (by simp)⟩; (conv => whnf); (try (refine ⟨(rfl : (_ : Heap) = _), ?_⟩; (conv => whnf)))
    refine ⟨_, _, (isC (isV_set hm true hv) (by simp; omega)).frame rfl _, ?_⟩; (conv => whnf); (try (refine ⟨(rfl : (_ : Heap) = _), ?_⟩; (conv => whnf)))
    (repeat (first | (refine ⟨fun _ => ?_, fun h => absurd h (by decide)⟩; (conv => whnf); (try (refine ⟨(rfl : (_ : Heap) = _), ?_⟩; (conv => whnf)))) | (refine ⟨fun h => absurd h (by decide), fun _ => ?_⟩; (conv => whnf); (try (refine ⟨(rfl : (_ : Heap) = _), ?_⟩; (conv => whnf))))))
    refine ⟨fun _ => ?_, fun h => absurd h (by simp)⟩; (conv => whnf); (try (refine ⟨(rfl : (_ : Heap) = _), ?_⟩; (conv => whnf)))
    exact ⟨.inl rfl, _, .refl _, rfl⟩

end Go.Lim
