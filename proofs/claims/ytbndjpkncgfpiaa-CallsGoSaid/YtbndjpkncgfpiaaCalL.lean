/- Layer 10 (calls), plain: what holds of a trace's calls (for CallsFront and CallsCount). -/
import Derived.Test.YtbndjpkncgfpiaaCalF
namespace Go.Cal
open Go.Ab Go.Hy
set_option linter.unusedVariables false

def withNew (b : Bk) (i : Int) (e : Eve) : List Cal := if e.begin_ then b.l ++ [newCal e i] else b.l

/-- An event marks one open call. -/
theorem event_step {b b' : Bk} (hb : Inv b) {e : Eve} {i : Int} (hi : 0 ≤ i) (h : eventV b i e = some b') :
    ∃ n c, (withNew b i e)[n]? = some c ∧ c.to_ < 0 ∧ b'.l = (withNew b i e).set n (markC e i c) := by
  have h1 := (event_same hb hi (e := e)).1
  rw [h] at h1
  unfold refE at h1
  unfold withNew
  cases he : e.begin_ with
  | true =>
    rw [he, if_pos rfl] at h1
    split at h1
    · cases h1
    · rw [if_pos rfl]
      have hc : (b.l ++ [newCal e i])[b.l.length]? = some (newCal e i) := by simp
      refine ⟨b.l.length, newCal e i, hc, by show (-1 : Int) < 0; decide, ?_⟩
      rw [← modify_at hc]
      exact (Option.some.inj h1).symm
  | false =>
    rw [he, if_neg (by simp)] at h1
    rw [if_neg (by simp)]
    cases hp : placeV b.l e.thread e.op with
    | none => rw [hp] at h1; cases h1
    | some n =>
      rw [hp] at h1
      obtain ⟨c, hc, _⟩ := place_some hp
      dsimp only at h1
      rw [hc] at h1
      split at h1
      · cases h1
      · rename_i h2
        refine ⟨n, c, hc, by simpa using h2, ?_⟩
        rw [← modify_at hc]
        exact (Option.some.inj h1).symm

/-- What holds of each call behind so many events. -/
structure CalOk (k : Int) (c : Cal) : Prop where
  from0 : 0 ≤ c.from_ ∧ c.from_ < k
  to0 : c.to_ = -1 ∨ c.from_ ≤ c.to_ ∧ c.to_ < k
  point0 : c.point = -1 ∨ c.from_ ≤ c.point ∧ c.point < k
  both : 0 ≤ c.to_ → c.point ≤ c.to_

theorem CalOk.mono {k k' : Int} {c : Cal} (h : CalOk k c) (hk : k ≤ k') : CalOk k' c := by
  obtain ⟨a, b, c1, d⟩ := h
  exact ⟨by omega, by omega, by omega, d⟩

theorem CalOk.mark {k : Nat} {c : Cal} {e : Eve} (h : CalOk ((k + 1 : Nat) : Int) c) (ht : c.to_ < 0) : CalOk ((k + 1 : Nat) : Int) (markC e (k : Int) c) := by
  obtain ⟨a, b, c1, d⟩ := h
  unfold markC
  cases e.point <;> cases e.done <;> (refine ⟨?_, ?_, ?_, ?_⟩ <;> simp <;> omega)

theorem CalOk.new (e : Eve) (k : Nat) : CalOk ((k + 1 : Nat) : Int) (newCal e (k : Int)) := by
  refine ⟨?_, ?_, ?_, ?_⟩ <;> simp [newCal] <;> omega

abbrev toB (c : Cal) : Bool := decide (0 ≤ c.to_)
structure Count (l : List Eve) (k : Nat) (b : Bk) : Prop where
  ok : ∀ c ∈ b.l, CalOk (k : Int) c
  begun : b.l.length = (l.take k).countP (·.begin_)
  done : b.l.countP toB = (l.take k).countP (·.done)

theorem take_count (p : Eve → Bool) {l : List Eve} {k : Nat} (hk : k < l.length) : (l.take (k + 1)).countP p = (l.take k).countP p + if p l[k] then 1 else 0 := by
  rw [List.take_succ_eq_append_getElem hk, List.countP_append, List.countP_singleton]

theorem bk_count (l : List Eve) : ∀ {k : Nat} {b : Bk}, bkAt l k = some b → Count l k b
  | 0, b, h => by cases h; exact ⟨by simp, rfl, rfl⟩
  | k + 1, b, h => by
    simp only [bkAt] at h
    cases h1 : bkAt l k with
    | none => rw [h1] at h; cases h
    | some b0 =>
      rw [h1] at h
      obtain ⟨h2, h3, h4⟩ := bk_count l h1
      cases h5 : l[k]? with
      | none => rw [h5] at h; cases h
      | some e =>
        rw [h5] at h
        have hk : k < l.length := (List.getElem?_eq_some_iff.1 h5).1
        have hek : l[k] = e := (List.getElem?_eq_some_iff.1 h5).2
        have hi := (at_same l k).2 b0 h1
        have hev : eventV b0 (k : Int) e = some b := h
        obtain ⟨n, c, hc, ht, hl⟩ := event_step hi (by omega) hev
        have hall : ∀ c ∈ withNew b0 (k : Int) e, CalOk ((k + 1 : Nat) : Int) c := by
          intro c' hc'
          unfold withNew at hc'
          split at hc'
          · rcases List.mem_append.1 hc' with h6 | h6
            · exact (h2 c' h6).mono (by omega)
            · simp at h6; subst h6; exact CalOk.new e k
          · exact (h2 c' hc').mono (by omega)
        have hn := (List.getElem?_eq_some_iff.1 hc).1
        have hcn : (withNew b0 (k : Int) e)[n] = c := (List.getElem?_eq_some_iff.1 hc).2
        refine ⟨?_, ?_, ?_⟩
        · intro c' hc'
          rw [hl] at hc'
          rcases List.mem_or_eq_of_mem_set hc' with h6 | h6
          · exact hall c' h6
          · subst h6; exact (hall c (List.mem_of_getElem? hc)).mark ht
        · rw [hl, List.length_set, take_count _ hk, hek, ← h3]
          unfold withNew
          cases e.begin_ <;> simp
        · rw [hl, List.countP_set hn, hcn, take_count _ hk, hek, ← h4]
          have e1 : (withNew b0 (k : Int) e).countP toB = b0.l.countP toB := by
            unfold withNew
            cases e.begin_ <;> simp [newCal]
          have e2 : toB c = false := by simp; omega
          have e3 : toB (markC e (k : Int) c) = e.done := by
            unfold toB
            rw [mark_to]
            cases e.done <;> simp <;> omega
          rw [e1, e2, e3]
          simp

/-- A later book goes on from an earlier one. -/
def Goes (b b' : Bk) : Prop := ∀ (n : Nat) (c : Cal), b.l[n]? = some c → ∃ c' : Cal, b'.l[n]? = some c' ∧ c'.thread = c.thread ∧ c'.op = c.op ∧ c'.from_ = c.from_ ∧ c.point ≤ c'.point ∧ (0 ≤ c.to_ → c' = c)

theorem goes_step {l : List Eve} {k : Nat} {b b' : Bk} (h : bkAt l k = some b) (h' : bkAt l (k + 1) = some b') : Goes b b' := by
  simp only [bkAt, h] at h'
  cases h5 : l[k]? with
  | none => rw [h5] at h'; cases h'
  | some e =>
    rw [h5] at h'
    have hi := (at_same l k).2 b h
    have hev : eventV b (k : Int) e = some b' := h'
    obtain ⟨n, c, hc, ht, hl⟩ := event_step hi (by omega) hev
    intro m d hd
    have hok := (bk_count l h).ok d (List.mem_of_getElem? hd)
    have hw : (withNew b (k : Int) e)[m]? = some d := by
      unfold withNew
      split
      · rw [List.getElem?_append_left (List.getElem?_eq_some_iff.1 hd).1]; exact hd
      · exact hd
    rw [hl]
    by_cases hm : n = m
    · subst hm
      rw [hw] at hc
      cases hc
      refine ⟨markC e (k : Int) c, by rw [List.getElem?_set, if_pos rfl, if_pos (List.getElem?_eq_some_iff.1 hw).1], (mark_thread e k c).1, (mark_thread e k c).2, ?_, ?_, fun h => by omega⟩
      · unfold markC; cases e.point <;> cases e.done <;> rfl
      · have := hok.point0
        have h0 := hok.from0
        unfold markC; cases e.point <;> cases e.done <;> simp <;> omega
    · rw [List.getElem?_set, if_neg hm]
      exact ⟨d, hw, rfl, rfl, rfl, Int.le_refl _, fun _ => rfl⟩

theorem goes {l : List Eve} {k : Nat} {b : Bk} (h : bkAt l k = some b) : ∀ m b', bkAt l (k + m) = some b' → Goes b b'
  | 0, b', h' => by
    rw [Nat.add_zero, h] at h'
    cases h'
    exact fun n c hc => ⟨c, hc, rfl, rfl, rfl, Int.le_refl _, fun _ => rfl⟩
  | m + 1, b', h' => by
    cases h1 : bkAt l (k + m) with
    | none => simp [bkAt, h1] at h'
    | some b1 =>
      have g1 := goes h m b1 h1
      have g2 := goes_step h1 h'
      intro n c hc
      obtain ⟨c1, a1, a2, a3, a4, a5, a6⟩ := g1 n c hc
      obtain ⟨c2, d1, d2, d3, d4, d5, d6⟩ := g2 n c1 a1
      refine ⟨c2, d1, d2.trans a2, d3.trans a3, d4.trans a4, Int.le_trans a5 d5, fun h => ?_⟩
      have e1 := a6 h
      subst e1
      exact d6 h

/-- A trace's beginning: its book. -/
theorem bk_take (l : List Eve) (n : Nat) : ∀ k, k ≤ n → bkAt (l.take n) k = bkAt l k
  | 0, _ => rfl
  | k + 1, hk => by
    simp only [bkAt, bk_take l n k (by omega)]
    have e : (l.take n)[k]? = l[k]? := by rw [List.getElem?_take, if_pos (by omega)]
    rw [e]

end Go.Cal
