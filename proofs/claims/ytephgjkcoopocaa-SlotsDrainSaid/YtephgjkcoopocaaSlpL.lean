/- Layer 14 (slots), plain laws: popping, pushing, draining. -/
import Derived.Test.YtephgjkcoopocaaSlpA
namespace Go.Slp
open Go.Ab Go.Hy
set_option linter.unusedVariables false

theorem nextT_head {x i : Int} (h1 : -1 ≤ i) (h2 : i ≤ 2147483646) : nextT x i % 4294967296 - 1 = i := by unfold nextT; omega
theorem nextT_tag {x i : Int} (h1 : -1 ≤ i) (h2 : i ≤ 2147483646) : nextT x i / 4294967296 = (x / 4294967296 + 1) % 4294967296 := by unfold nextT; omega
theorem nextT_ok {x i : Int} (h1 : -1 ≤ i) (h2 : i ≤ 2147483646) : u64 (nextT x i) := by unfold nextT u64; omega

theorem pos_shift (nx : List Int) (i0 : Int) : ∀ k, posV nx (nxt nx i0) k = posV nx i0 (k + 1)
  | 0 => rfl
  | k + 1 => by
    show nxt nx (posV nx (nxt nx i0) k) = nxt nx (posV nx i0 (k + 1))
    rw [pos_shift nx i0 k]

theorem vis_shift (nx : List Int) (i0 : Int) (k : Nat) : visV nx i0 (k + 1) = i0 :: visV nx (nxt nx i0) k := by
  unfold visV
  rw [List.range_succ_eq_map, List.map_cons, List.map_map]
  congr 1
  apply List.map_congr_left
  intro j _
  exact (pos_shift nx i0 j).symm

/-- A chain's rest. -/
theorem chain_tail {nx : List Int} {i0 : Int} (h : okV nx i0 = true) (h0 : ¬ i0 < 0) : cntV nx (nxt nx i0) + 1 = cntV nx i0 ∧ okV nx (nxt nx i0) = true ∧ visV nx i0 (cntV nx i0) = i0 :: visV nx (nxt nx i0) (cntV nx (nxt nx i0)) := by
  have hp := cnt_pos h h0
  obtain ⟨N, hN⟩ : ∃ N, cntV nx i0 = N + 1 := ⟨cntV nx i0 - 1, by omega⟩
  obtain ⟨c1, c2, c3⟩ := cnt_spec nx i0
  have hend : posV nx (nxt nx i0) N = -1 := by
    rw [pos_shift, ← hN]
    simpa [okV] using h
  have e : cntV nx (nxt nx i0) = N := by
    refine cnt_uniq ?_ ?_
    · have : inB nx (posV nx (nxt nx i0) N) = false := by rw [hend]; simp [inB]
      simp [stopB, this]
    · intro j hj
      have := c3 (j + 1) (by omega)
      simp only [stopB, Bool.or_eq_false_iff, Bool.not_eq_false'] at this ⊢
      rw [pos_shift]
      refine ⟨this.1, ?_⟩
      have h2 := this.2
      rw [vis_shift] at h2
      simp only [List.contains_cons, Bool.or_eq_false_iff] at h2
      exact h2.2
  refine ⟨by rw [e, hN], by simp [okV, e, hend], ?_⟩
  rw [hN, e, vis_shift]

theorem free_of {e : En} (h : okV e.next (headI e) = true) : freeV e = (visV e.next (headI e) (cntV e.next (headI e)), 0) := by
  unfold freeV; rw [if_pos h]

/-- **What is popped, and what is left.** -/
theorem pop_law {e : En} (he : e.ok) {a : En} {i : Int} (h : popV e = (a, i, 0)) :
    isV e = true ∧ ¬ headI e < 0 ∧ i = headI e ∧ a = ⟨nextT e.head (nxt e.next (headI e)), e.next, e.active⟩ ∧ headI a = nxt e.next (headI e) ∧ isV a = true ∧ a.ok ∧ (freeV a).2 = 0 ∧ (freeV e) = (i :: (freeV a).1, 0) := by
  unfold popV at h
  cases hv : isV e with
  | false => rw [if_pos hv] at h; simp at h
  | true =>
    rw [if_neg (by simp [hv])] at h
    by_cases h0 : headI e < 0
    · rw [if_pos h0] at h; simp at h
    · rw [if_neg h0] at h
      cases h
      obtain ⟨g1, g2, g3, g4⟩ := head_in hv h0
      obtain ⟨b1, b2, b3, b4⟩ := isV_ok hv
      have hh : headI ⟨nextT e.head (nxt e.next (headI e)), e.next, e.active⟩ = nxt e.next (headI e) := nextT_head g3 (by omega)
      obtain ⟨t1, t2, t3⟩ := chain_tail b1 h0
      have hok : okV (⟨nextT e.head (nxt e.next (headI e)), e.next, e.active⟩ : En).next (headI ⟨nextT e.head (nxt e.next (headI e)), e.next, e.active⟩) = true := by rw [hh]; exact t2
      refine ⟨rfl, h0, rfl, rfl, hh, ?_, ⟨nextT_ok g3 (by omega), he.2⟩, ?_, ?_⟩
      · simp only [isV, hok, Bool.true_and, Bool.and_eq_true, decide_eq_true_eq]
        exact ⟨⟨b2, b3⟩, b4⟩
      · rw [free_of hok]
      · rw [free_of b1, free_of hok, hh, t3]

theorem nxt_set_ne {nx : List Int} {s p v : Int} (h : p ≠ s) (h1 : 0 ≤ s) (h2 : 0 ≤ p) : nxt (nx.set s.toNat v) p = nxt nx p := by
  unfold nxt
  rw [List.getElem?_set, if_neg (by omega)]
theorem nxt_set_eq {nx : List Int} {s v : Int} (h1 : 0 ≤ s) (h2 : s < nx.length) : nxt (nx.set s.toNat v) s = v := by
  unfold nxt
  rw [List.getElem?_set, if_pos rfl, if_pos (by omega)]
  rfl

/-- **What is pushed comes first.** -/
theorem push_law {e : En} (he : e.ok) {slot : Int} {a : En} (h : pushV e slot = (a, 0)) :
    isV e = true ∧ 0 ≤ slot ∧ slot < e.next.length ∧ a = ⟨nextT e.head slot, e.next.set slot.toNat (headI e), e.active⟩ ∧ headI a = slot ∧ isV a = true ∧ a.ok ∧ (freeV e).2 = 0 ∧ freeV a = (slot :: (freeV e).1, 0) := by
  unfold pushV at h
  cases hv : isV e with
  | false => rw [if_pos hv] at h; simp at h
  | true =>
    rw [if_neg (by simp [hv])] at h
    by_cases h0 : slot < 0 ∨ e.next.length ≤ slot
    · rw [if_pos h0] at h; simp at h
    · rw [if_neg h0] at h
      cases hc : (freeV e).1.contains slot with
      | true => rw [if_pos hc] at h; simp at h
      | false =>
        rw [if_neg (by rw [hc]; decide)] at h
        cases h
        obtain ⟨b1, b2, b3, b4⟩ := isV_ok hv
        have s1 : 0 ≤ slot := by omega
        have s2 : slot < e.next.length := by omega
        have hh : headI ⟨nextT e.head slot, e.next.set slot.toNat (headI e), e.active⟩ = slot := nextT_head (by omega) (by omega)
        obtain ⟨c1, c2, c3⟩ := cnt_spec e.next (headI e)
        generalize hN : cntV e.next (headI e) = N at *
        have hfr : freeV e = (visV e.next (headI e) N, 0) := by rw [free_of b1, hN]
        rw [hfr] at hc
        have hnot : ∀ k, k < N → posV e.next (headI e) k ≠ slot ∧ 0 ≤ posV e.next (headI e) k := fun k hk => by
          constructor
          · intro e2
            have : slot ∈ visV e.next (headI e) N := List.mem_map.2 ⟨k, List.mem_range.2 hk, e2⟩
            simp [this] at hc
          · have := c3 k hk
            simp only [stopB, Bool.or_eq_false_iff, Bool.not_eq_false', inB, Bool.and_eq_true, decide_eq_true_eq] at this
            exact this.1.1
        have hpos : ∀ k, k ≤ N → posV (e.next.set slot.toNat (headI e)) slot (k + 1) = posV e.next (headI e) k := by
          intro k
          induction k with
          | zero => intro _; exact nxt_set_eq s1 s2
          | succ k ih =>
            intro hk
            show nxt _ (posV (e.next.set slot.toNat (headI e)) slot (k + 1)) = nxt e.next (posV e.next (headI e) k)
            rw [ih (by omega)]
            exact nxt_set_ne (hnot k (by omega)).1 s1 (hnot k (by omega)).2
        have hvis : ∀ k, k ≤ N → visV (e.next.set slot.toNat (headI e)) slot (k + 1) = slot :: visV e.next (headI e) k := fun k hk => by
          unfold visV
          rw [List.range_succ_eq_map, List.map_cons, List.map_map]
          congr 1
          apply List.map_congr_left
          intro j hj
          exact hpos j (by have := List.mem_range.1 hj; omega)
        have hin : ∀ p, inB (e.next.set slot.toNat (headI e)) p = inB e.next p := fun p => by simp [inB]
        have hend : posV e.next (headI e) N = -1 := by
          have : okV e.next (headI e) = true := b1
          simp only [okV, hN, beq_iff_eq] at this
          exact this
        have hcnt : cntV (e.next.set slot.toNat (headI e)) slot = N + 1 := by
          refine cnt_uniq ?_ ?_
          · have : inB (e.next.set slot.toNat (headI e)) (posV (e.next.set slot.toNat (headI e)) slot (N + 1)) = false := by rw [hpos N (Nat.le_refl _), hend, hin]; simp [inB]
            simp [stopB, this]
          · intro j hj
            cases j with
            | zero =>
              simp only [stopB, visV, posV, hin]
              simp [inB, s1, s2]
            | succ j =>
              have := c3 j (by omega)
              simp only [stopB, Bool.or_eq_false_iff, Bool.not_eq_false'] at this ⊢
              rw [hpos j (by omega), hvis j (by omega), hin]
              refine ⟨this.1, ?_⟩
              rw [List.contains_cons, this.2]
              simp
              exact (hnot j (by omega)).1
        have hok : okV (e.next.set slot.toNat (headI e)) slot = true := by
          simp only [okV, hcnt, hpos N (Nat.le_refl _), hend]
          rfl
        have hfa : freeV ⟨nextT e.head slot, e.next.set slot.toNat (headI e), e.active⟩ = (slot :: visV e.next (headI e) N, 0) := by
          rw [free_of (by rw [hh]; exact hok), hh]
          show (visV (e.next.set slot.toNat (headI e)) slot (cntV (e.next.set slot.toNat (headI e)) slot), (0 : Int)) = _
          rw [hcnt, hvis N (Nat.le_refl _)]
        refine ⟨rfl, s1, s2, rfl, hh, ?_, ⟨nextT_ok (by omega) (by omega), ⟨fun x hx => ?_, by simp; exact he.2.1.2⟩, he.2.2⟩, by rw [hfr], by rw [hfa, hfr]⟩
        · simp only [isV, hh, hok, Bool.true_and, Bool.and_eq_true, decide_eq_true_eq]
          exact ⟨⟨by simp; omega, by simp; omega⟩, b4⟩
        · rcases List.mem_or_eq_of_mem_set hx with h | h
          · exact he.2.1.1 x h
          · have := head_rng e
            rw [h]
            exact ⟨by omega, by omega⟩

theorem vis_nodup (nx : List Int) (i0 : Int) : (visV nx i0 (cntV nx i0)).Nodup := (vis_good (cnt_spec nx i0).2.2).1

/-- **Popped and pushed again.** -/
theorem back_law {e : En} (he : e.ok) {a : En} {i : Int} (h : popV e = (a, i, 0)) : ∃ b, pushV a i = (b, 0) ∧ freeV b = freeV e ∧ isV b = true ∧ b.ok ∧ b.head = nextT a.head i := by
  obtain ⟨p1, p2, p3, p4, p5, p6, p7, p8, p9⟩ := pop_law he h
  obtain ⟨g1, g2, g3, g4⟩ := head_in p1 p2
  obtain ⟨b1, _⟩ := isV_ok p1
  have hnot : (freeV a).1.contains i = false := by
    have hd := vis_nodup e.next (headI e)
    have hf := free_of b1
    rw [p9] at hf
    have := congrArg Prod.fst hf
    simp only at this
    rw [← this] at hd
    rw [List.nodup_cons] at hd
    simpa using hd.1
  have hp : pushV a i = (⟨nextT a.head i, a.next.set i.toNat (headI a), a.active⟩, 0) := by
    unfold pushV
    rw [if_neg (by simp [p6]), if_neg (by rw [p3, p4]; show ¬ (headI e < 0 ∨ (e.next.length : Int) ≤ headI e); omega), if_neg (by rw [hnot]; decide)]
  obtain ⟨q1, q2, q3, q4, q5, q6, q7, q8, q9⟩ := push_law p7 hp
  refine ⟨_, hp, ?_, q6, q7, rfl⟩
  rw [q9, p9]

end Go.Slp
