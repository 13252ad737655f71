/- Layer 14 (slots), plain: the chain of free slots. -/
import Derived.Test.YtephgjkcoopocaaApi
namespace Go.Slp
open Go.Ab Go.Hy
set_option linter.unusedVariables false

/-! ### The chain -/

def inB (nx : List Int) (i : Int) : Bool := decide (0 ≤ i) && decide (i < nx.length)
def nxt (nx : List Int) (i : Int) : Int := (nx[i.toNat]?).getD 0
/-- The number that the chain has at its so manyth place. -/
def posV (nx : List Int) (i0 : Int) : Nat → Int
  | 0 => i0
  | k + 1 => nxt nx (posV nx i0 k)
def visV (nx : List Int) (i0 : Int) (k : Nat) : List Int := (List.range k).map (posV nx i0)
def stopB (nx : List Int) (i0 : Int) (k : Nat) : Bool := !inB nx (posV nx i0 k) || (visV nx i0 k).contains (posV nx i0 k)
/-- How many slots the chain has, till it stops. -/
def cntV (nx : List Int) (i0 : Int) : Nat := ((List.range (nx.length + 1)).find? (stopB nx i0)).getD 0
def okV (nx : List Int) (i0 : Int) : Bool := posV nx i0 (cntV nx i0) == -1

theorem pigeon : ∀ (n : Nat) (l : List Int), l.Nodup → (∀ x ∈ l, 0 ≤ x ∧ x < n) → l.length ≤ n
  | 0, l, _, h => by
    cases l with
    | nil => exact Nat.le_refl _
    | cons x l => have := h x (List.mem_cons_self ..); omega
  | n + 1, l, hd, h => by
    by_cases hm : (n : Int) ∈ l
    · have h1 := pigeon n (l.erase n) (hd.erase _) fun x hx => by
        have h2 := h x (List.mem_of_mem_erase hx)
        have h3 : x ≠ n := fun e => by
          subst e
          exact absurd hx (List.Nodup.not_mem_erase hd)
        omega
      rw [List.length_erase_of_mem hm] at h1
      omega
    · have := pigeon n l hd fun x hx => by
        have h2 := h x hx
        have h3 : x ≠ n := fun e => hm (e ▸ hx)
        omega
      omega

theorem vis_succ (nx : List Int) (i0 : Int) (k : Nat) : visV nx i0 (k + 1) = visV nx i0 k ++ [posV nx i0 k] := by
  simp [visV, List.range_succ]
theorem vis_len (nx : List Int) (i0 : Int) (k : Nat) : (visV nx i0 k).length = k := by simp [visV]

theorem vis_good {nx : List Int} {i0 : Int} : ∀ {k : Nat}, (∀ j, j < k → stopB nx i0 j = false) → (visV nx i0 k).Nodup ∧ ∀ x ∈ visV nx i0 k, inB nx x = true
  | 0, _ => ⟨by simp [visV], by simp [visV]⟩
  | k + 1, h => by
    obtain ⟨h1, h2⟩ := vis_good (k := k) fun j hj => h j (by omega)
    have h3 := h k (by omega)
    simp only [stopB, Bool.or_eq_false_iff, Bool.not_eq_false'] at h3
    have h4 : posV nx i0 k ∉ visV nx i0 k := by simpa using h3.2
    rw [vis_succ]
    refine ⟨?_, ?_⟩
    · rw [List.nodup_append]
      refine ⟨h1, by simp, ?_⟩
      intro a ha b hb e
      rw [List.mem_singleton] at hb
      subst hb e
      exact h4 ha
    · intro x hx
      rcases List.mem_append.1 hx with hx | hx
      · exact h2 x hx
      · rw [List.mem_singleton.1 hx]; exact h3.1

theorem cnt_spec (nx : List Int) (i0 : Int) : cntV nx i0 ≤ nx.length ∧ stopB nx i0 (cntV nx i0) = true ∧ ∀ j, j < cntV nx i0 → stopB nx i0 j = false := by
  unfold cntV
  cases e : (List.range (nx.length + 1)).find? (stopB nx i0) with
  | none =>
    exfalso
    rw [List.find?_eq_none] at e
    have h : ∀ j, j < nx.length + 1 → stopB nx i0 j = false := fun j hj => by simpa using e j (List.mem_range.2 hj)
    obtain ⟨h1, h2⟩ := vis_good h
    have := pigeon nx.length _ h1 fun x hx => by
      have := h2 x hx
      simp only [inB, Bool.and_eq_true, decide_eq_true_eq] at this
      exact this
    rw [vis_len] at this
    omega
  | some k =>
    rw [List.find?_eq_some_iff_append] at e
    obtain ⟨h1, as, bs, h2, h3⟩ := e
    have hk : as.length = k ∧ k < nx.length + 1 := by
      have h4 : (List.range (nx.length + 1))[as.length]? = some k := by rw [h2]; simp
      have h5 := (List.getElem?_eq_some_iff.1 h4)
      obtain ⟨h6, h7⟩ := h5
      rw [List.getElem_range] at h7
      simp at h6
      omega
    refine ⟨by simp; omega, by simpa using h1, fun j hj => ?_⟩
    have h8 : (List.range (nx.length + 1))[j]? = some j := by
      simp at hj
      rw [List.getElem?_range (by omega)]
    rw [h2, List.getElem?_append_left (by simp at hj; omega)] at h8
    simpa using h3 j (List.mem_of_getElem? h8)

theorem cnt_uniq {nx : List Int} {i0 : Int} {n : Nat} (h1 : stopB nx i0 n = true) (h2 : ∀ j, j < n → stopB nx i0 j = false) : cntV nx i0 = n := by
  obtain ⟨_, h3, h4⟩ := cnt_spec nx i0
  rcases Nat.lt_trichotomy (cntV nx i0) n with h | h | h
  · rw [h2 _ h] at h3; cases h3
  · exact h
  · rw [h4 _ h] at h1; cases h1

/-! ### Endpoints -/

abbrev no : En := ⟨0, [], 0⟩
def headI (e : En) : Int := e.head % 4294967296 - 1
def nextT (x i : Int) : Int := (x / 4294967296 + 1) % 4294967296 * 4294967296 + (i + 1)
def freeV (e : En) : List Int × Int := if okV e.next (headI e) then (visV e.next (headI e) (cntV e.next (headI e)), 0) else ([], 11)
def isV (e : En) : Bool := okV e.next (headI e) && decide (1 ≤ e.next.length) && decide (e.next.length ≤ 4) && decide (0 ≤ e.active)
def popV (e : En) : En × Int × Int :=
  if isV e = false then (no, 0, 11) else if headI e < 0 then (no, 0, 5) else (⟨nextT e.head (nxt e.next (headI e)), e.next, e.active⟩, headI e, 0)
def pushV (e : En) (slot : Int) : En × Int :=
  if isV e = false then (no, 11) else if slot < 0 ∨ e.next.length ≤ slot then (no, 1) else if (freeV e).1.contains slot then (no, 4)
  else (⟨nextT e.head slot, e.next.set slot.toNat (headI e), e.active⟩, 0)
def freshV (n : Int) : En × Int := if n < 1 ∨ 4 < n then (no, 1) else (⟨1, (List.range n.toNat).map fun (i : Nat) => if i + 1 = n.toNat then -1 else (i : Int) + 1, 0⟩, 0)

theorem head_rng (e : En) : -1 ≤ headI e ∧ headI e ≤ 4294967294 := by unfold headI; omega

/-- What stands in a good chain is a slot, or the end. -/
theorem ok_next {nx : List Int} {i0 : Int} (h : okV nx i0 = true) {k : Nat} (hk : k < cntV nx i0) : inB nx (posV nx i0 k) = true ∧ -1 ≤ posV nx i0 (k + 1) ∧ posV nx i0 (k + 1) < nx.length := by
  obtain ⟨h1, h2, h3⟩ := cnt_spec nx i0
  have h4 := h3 k hk
  simp only [stopB, Bool.or_eq_false_iff, Bool.not_eq_false'] at h4
  refine ⟨h4.1, ?_⟩
  rcases Nat.lt_or_ge (k + 1) (cntV nx i0) with h5 | h5
  · have h6 := h3 _ h5
    simp only [stopB, Bool.or_eq_false_iff, Bool.not_eq_false', inB, Bool.and_eq_true, decide_eq_true_eq] at h6
    omega
  · have e : k + 1 = cntV nx i0 := by omega
    rw [e]
    simp only [okV, beq_iff_eq] at h
    rw [h]
    omega

theorem cnt_zero {nx : List Int} {i0 : Int} (h : okV nx i0 = true) (h0 : i0 < 0) : cntV nx i0 = 0 := by
  refine cnt_uniq (n := 0) ?_ fun j hj => absurd hj (Nat.not_lt_zero _)
  have : inB nx i0 = false := by simp [inB]; omega
  simp [stopB, posV, this]
theorem cnt_pos {nx : List Int} {i0 : Int} (h : okV nx i0 = true) (h0 : ¬ i0 < 0) : 0 < cntV nx i0 := by
  rcases Nat.eq_zero_or_pos (cntV nx i0) with e | e
  · simp only [okV, e, posV, beq_iff_eq] at h
    omega
  · exact e
theorem ok_head {nx : List Int} {i0 : Int} (h : okV nx i0 = true) (h0 : i0 < 0) : i0 = -1 := by
  have := cnt_zero h h0
  simp only [okV, this, posV, beq_iff_eq] at h
  exact h

theorem isV_ok {e : En} (h : isV e = true) : okV e.next (headI e) = true ∧ 1 ≤ e.next.length ∧ e.next.length ≤ 4 ∧ 0 ≤ e.active := by
  simp only [isV, Bool.and_eq_true, decide_eq_true_eq] at h
  exact ⟨h.1.1.1, h.1.1.2, h.1.2, h.2⟩

theorem head_in {e : En} (h : isV e = true) (h0 : ¬ headI e < 0) : 0 ≤ headI e ∧ headI e < e.next.length ∧ -1 ≤ nxt e.next (headI e) ∧ nxt e.next (headI e) < e.next.length := by
  obtain ⟨h1, h2, h3, h4⟩ := isV_ok h
  obtain ⟨h5, h6, h7⟩ := ok_next h1 (cnt_pos h1 h0)
  simp only [inB, posV, Bool.and_eq_true] at h5
  exact ⟨of_decide_eq_true h5.1, of_decide_eq_true h5.2, h6, h7⟩

/-! ### Which slots were seen -/

def seenB (nx : List Int) (i0 : Int) : Nat → List Bool
  | 0 => List.replicate nx.length false
  | k + 1 => (seenB nx i0 k).set (posV nx i0 k).toNat true
theorem seen_len (nx : List Int) (i0 : Int) : ∀ k, (seenB nx i0 k).length = nx.length
  | 0 => by simp [seenB]
  | k + 1 => by simp [seenB, seen_len nx i0 k]
theorem seen_at {nx : List Int} {i0 : Int} : ∀ {k : Nat}, (∀ j, j < k → inB nx (posV nx i0 j) = true) → ∀ {i : Nat}, i < nx.length → (seenB nx i0 k)[i]? = some ((visV nx i0 k).contains (i : Int))
  | 0, _, i, hi => by simp [seenB, visV, hi]
  | k + 1, h, i, hi => by
    have ih := seen_at (k := k) (fun j hj => h j (by omega)) hi
    have hb := h k (by omega)
    simp only [inB, Bool.and_eq_true, decide_eq_true_eq] at hb
    rw [vis_succ]
    simp only [seenB]
    rw [List.getElem?_set, seen_len]
    by_cases e : (posV nx i0 k).toNat = i
    · rw [if_pos e, if_pos (by omega)]
      have : (i : Int) = posV nx i0 k := by omega
      simp [this]
    · rw [if_neg e, ih]
      have : ¬ (i : Int) = posV nx i0 k := by omega
      simp [this]

end Go.Slp
