/- Layer 10 (calls), plain: the document's answer, and that the program's is the same. -/
import Derived.Test.YtbndjpkncgfpiaaCalE
namespace Go.Cal
open Go.Ab Go.Hy
set_option linter.unusedVariables false

def placeV (l : List Cal) (t o : Int) : Option Nat := l.findIdx? fun c => c.thread == t && c.op == o
def busyV (l : List Cal) (t : Int) : Bool := l.any fun c => c.thread == t && decide (c.to_ < 0)

/-- An event, by the document. -/
def refE (l : List Cal) (i : Int) (e : Eve) : Option (List Cal) :=
  if e.begin_ then
    if (placeV l e.thread e.op).isSome || busyV l e.thread then none
    else some ((l ++ [newCal e i]).modify l.length (markC e i))
  else match placeV l e.thread e.op with
    | none => none
    | some n => if (l[n]?.any fun c => decide (0 ≤ c.to_)) then none else some (l.modify n (markC e i))

def refAt (l : List Eve) : Nat → Option (List Cal)
  | 0 => some []
  | k + 1 => (refAt l k).bind fun b => (l[k]?).bind fun e => refE b k e
def refV (l : List Eve) : List Cal × Int := match refAt l l.length with
  | some b => (b, 0)
  | none => ([], 11)

structure Inv (b : Bk) : Prop where
  ok : b.ok
  of_ : ∀ t o : Int, getI b.of_ (t, o) = match placeV b.l t o with | some n => (n : Int) + 1 | none => 0
  busy : ∀ (t : Int) (n : Nat), getI b.busy t = (n : Int) + 1 ↔ ∃ c, b.l[n]? = some c ∧ c.thread = t ∧ c.to_ < 0

theorem mark_thread (e : Eve) (i : Int) (c : Cal) : (markC e i c).thread = c.thread ∧ (markC e i c).op = c.op := by
  unfold markC
  cases e.point <;> cases e.done <;> exact ⟨rfl, rfl⟩
theorem mark_to (e : Eve) (i : Int) (c : Cal) : (markC e i c).to_ = if e.done then i else c.to_ := by
  unfold markC
  cases e.point <;> cases e.done <;> rfl

theorem place_modify (l : List Cal) (n : Nat) (e : Eve) (i : Int) (t o : Int) : placeV (l.modify n (markC e i)) t o = placeV l t o := by
  unfold placeV
  have h : ∀ m : List Cal, m.findIdx? (fun c => c.thread == t && c.op == o) = (m.map fun c => (c.thread, c.op)).findIdx? (fun x => x.1 == t && x.2 == o) := fun m => by
    rw [List.findIdx?_map]; rfl
  rw [h, h]
  congr 1
  apply List.ext_getElem?
  intro j
  simp only [List.getElem?_map, List.getElem?_modify]
  cases l[j]? with
  | none => rfl
  | some c =>
    simp only [Option.map_some]
    split
    · simp [mark_thread]
    · rfl

theorem place_some {l : List Cal} {t o : Int} {n : Nat} (h : placeV l t o = some n) : ∃ c, l[n]? = some c ∧ c.thread = t ∧ c.op = o := by
  unfold placeV at h
  rw [List.findIdx?_eq_some_iff_getElem] at h
  obtain ⟨h1, h2, _⟩ := h
  refine ⟨l[n], List.getElem?_eq_getElem h1, ?_⟩
  simpa using h2

theorem busy_iff {b : Bk} (hb : Inv b) (t : Int) : busyV b.l t = true ↔ 0 < getI b.busy t := by
  unfold busyV
  rw [List.any_eq_true]
  constructor
  · rintro ⟨c, hc, h⟩
    obtain ⟨n, hn, rfl⟩ := List.mem_iff_getElem.1 hc
    simp at h
    have := (hb.busy t n).2 ⟨_, List.getElem?_eq_getElem hn, h⟩
    omega
  · intro h
    obtain ⟨n, hn⟩ : ∃ n : Nat, getI b.busy t = (n : Int) + 1 := ⟨(getI b.busy t - 1).toNat, by omega⟩
    obtain ⟨c, h1, h2, h3⟩ := (hb.busy t n).1 hn
    exact ⟨c, List.mem_of_getElem? h1, by simp [h2, h3]⟩

theorem mark_inv {b : Bk} (hb : Inv b) {n : Nat} {c : Cal} {e : Eve} {i : Int} (hi : 0 ≤ i) (hc : b.l[n]? = some c) (ht : c.thread = e.thread) (hn : getI b.busy e.thread = (n : Int) + 1) :
    Inv ⟨b.l.modify n (markC e i), b.of_, if e.done then putV b.busy e.thread 0 else b.busy⟩ := by
  have hok : Bk.ok ⟨b.l.modify n (markC e i), b.of_, if e.done then putV b.busy e.thread 0 else b.busy⟩ := by
    refine ⟨by simpa using hb.ok.1, fun t => ?_⟩
    have := hb.ok.2 t
    simp only [List.length_modify]
    split
    · rw [findV_put]
      split <;> omega
    · exact this
  refine ⟨hok, fun t o => ?_, fun t m => ?_⟩
  · dsimp only
    rw [place_modify]
    exact hb.of_ t o
  · dsimp only
    have hbusy := hb.busy t m
    by_cases hm : m = n
    · subst hm
      have e1 : (b.l.modify m (markC e i))[m]? = some (markC e i c) := by rw [List.getElem?_modify, hc]; simp
      rw [e1]
      simp only [Option.some.injEq, exists_eq_left', mark_thread, mark_to]
      cases hd : e.done with
      | true =>
        rw [if_pos rfl, if_pos rfl, findV_put]
        by_cases h1 : t = e.thread
        · rw [if_pos h1]
          constructor
          · intro h; omega
          · rintro ⟨_, h⟩; omega
        · rw [if_neg h1, hbusy]
          constructor
          · rintro ⟨c', h2, h3, _⟩
            rw [hc] at h2; cases h2
            exact absurd (h3.symm.trans ht) h1
          · rintro ⟨h2, _⟩
            exact absurd (h2.symm.trans ht) h1
      | false =>
        rw [if_neg (by simp), if_neg (by simp), hbusy, hc]
        simp
    · have e1 : (b.l.modify n (markC e i))[m]? = b.l[m]? := by
        rw [List.getElem?_modify]
        cases b.l[m]? with
        | none => rfl
        | some x => simp [Ne.symm hm]
      rw [e1]
      cases hd : e.done with
      | true =>
        rw [if_pos rfl, findV_put]
        by_cases h1 : t = e.thread
        · rw [if_pos h1]
          subst h1
          constructor
          · intro h; omega
          · intro h
            have h2 := hbusy.2 h
            omega
        · rw [if_neg h1, hbusy]
      | false => rw [if_neg (by simp), hbusy]

theorem begin_inv {b : Bk} (hb : Inv b) {e : Eve} {i : Int} (hp : placeV b.l e.thread e.op = none) (hq : busyV b.l e.thread = false) : Inv (beginV b i e) := by
  refine ⟨begin_ok hb.ok, fun t o => ?_, fun t n => ?_⟩
  · simp only [beginV, findV_put, hb.of_ t o]
    unfold placeV at hp ⊢
    rw [List.findIdx?_append]
    by_cases h : (t, o) = (e.thread, e.op)
    · cases h
      rw [if_pos rfl, hp]
      simp [newCal]
    · rw [if_neg h]
      cases h1 : List.findIdx? (fun c : Cal => c.thread == t && c.op == o) b.l with
      | some n => simp
      | none =>
        have : (e.thread == t && e.op == o) = false := by
          rw [Bool.and_eq_false_iff]
          simp only [beq_eq_false_iff_ne]
          rcases Decidable.em (e.thread = t) with h2 | h2
          · exact .inr fun h3 => h (by rw [h2, h3])
          · exact .inl h2
        simp [newCal, this]
  · simp only [beginV, findV_put]
    have hbusy := hb.busy t n
    by_cases h : t = e.thread
    · subst h
      rw [if_pos rfl]
      rcases Nat.lt_trichotomy n b.l.length with h1 | h1 | h1
      · rw [List.getElem?_append_left h1]
        constructor
        · intro h2; omega
        · intro h2
          have := hbusy.2 h2
          have h3 := (busy_iff hb e.thread).2 (by omega)
          rw [hq] at h3; cases h3
      · subst h1
        simp [newCal]
      · rw [List.getElem?_eq_none (by simp; omega)]
        constructor
        · intro h2; omega
        · rintro ⟨c, h2, _⟩; cases h2
    · rw [if_neg h, hbusy]
      rcases Nat.lt_trichotomy n b.l.length with h1 | h1 | h1
      · rw [List.getElem?_append_left h1]
      · subst h1
        constructor
        · rintro ⟨c, h2, _⟩; rw [List.getElem?_eq_none (Nat.le_refl _)] at h2; cases h2
        · rintro ⟨c, h2, h3, _⟩
          simp at h2
          subst h2
          exact absurd h3.symm h
      · constructor
        · rintro ⟨c, h2, _⟩; rw [List.getElem?_eq_none (by omega)] at h2; cases h2
        · rintro ⟨c, h2, _⟩; rw [List.getElem?_eq_none (by simp; omega)] at h2; cases h2

theorem event_same {b : Bk} (hb : Inv b) {e : Eve} {i : Int} (hi : 0 ≤ i) : refE b.l i e = (eventV b i e).map (·.l) ∧ ∀ b', eventV b i e = some b' → Inv b' := by
  unfold refE eventV
  cases he : e.begin_ with
  | true =>
    rw [if_pos rfl, if_pos rfl]
    have h1 : (0 < getI b.of_ (e.thread, e.op) ∨ 0 < getI b.busy e.thread) ↔ ((placeV b.l e.thread e.op).isSome || busyV b.l e.thread) = true := by
      rw [Bool.or_eq_true, busy_iff hb, hb.of_]
      cases placeV b.l e.thread e.op with
      | none => simp
      | some n => simp
    by_cases h2 : ((placeV b.l e.thread e.op).isSome || busyV b.l e.thread) = true
    · rw [if_pos h2, if_pos (h1.2 h2)]
      exact ⟨rfl, fun b' h => by cases h⟩
    · rw [if_neg h2, if_neg (fun h => h2 (h1.1 h))]
      have h3 : placeV b.l e.thread e.op = none ∧ busyV b.l e.thread = false := by simpa using h2
      have hv := begin_inv (i := i) hb h3.1 h3.2
      have hbz : getI (beginV b i e).busy e.thread = (b.l.length : Int) + 1 := by simp only [beginV, findV_put, if_true]
      unfold goV
      rw [if_neg (by rw [hbz]; omega)]
      have e1 : ((b.l.length : Int) + 1 - 1).toNat = b.l.length := by omega
      rw [e1]
      refine ⟨rfl, fun b' h => ?_⟩
      cases h
      exact mark_inv hv hi (c := newCal e i) (by simp [beginV]) rfl hbz
  | false =>
    rw [if_neg (by simp), if_neg (by simp)]
    unfold goV
    rw [hb.of_]
    cases hp : placeV b.l e.thread e.op with
    | none => simp
    | some n =>
      obtain ⟨c, hc, ht, ho⟩ := place_some hp
      have hbusy := hb.busy e.thread n
      dsimp only
      rw [hc]
      by_cases h1 : 0 ≤ c.to_
      · rw [if_pos (by simp [h1]), if_pos]
        · exact ⟨rfl, fun b' h => by cases h⟩
        · right
          intro h
          obtain ⟨c', h2, _, h3⟩ := hbusy.1 h
          rw [hc] at h2; cases h2
          omega
      · have h2 := hbusy.2 ⟨c, hc, ht, by omega⟩
        have h3 : ¬ ((n : Int) + 1 = 0 ∨ getI b.busy e.thread ≠ (n : Int) + 1) := by
          rw [h2]
          rintro (h | h)
          · omega
          · exact h rfl
        have h4 : ¬ (Option.any (fun c : Cal => decide (0 ≤ c.to_)) (some c)) = true := by simp only [Option.any_some, decide_eq_true_eq]; exact h1
        rw [if_neg h4, if_neg h3]
        have e1 : ((n : Int) + 1 - 1).toNat = n := by omega
        rw [e1]
        refine ⟨rfl, fun b' h => ?_⟩
        cases h
        exact mark_inv hb hi hc ht h2

theorem inv0 : Inv bk0 := by
  refine ⟨bk0_ok, fun t o => ?_, fun t n => ?_⟩
  · rw [get0]; rfl
  · rw [get0]
    constructor
    · intro h; omega
    · rintro ⟨c, h, _⟩; simp at h

theorem at_same (l : List Eve) : ∀ k, refAt l k = (bkAt l k).map (·.l) ∧ ∀ b, bkAt l k = some b → Inv b
  | 0 => ⟨rfl, fun b h => by cases h; exact inv0⟩
  | k + 1 => by
    obtain ⟨h1, h2⟩ := at_same l k
    simp only [refAt, bkAt, h1]
    cases hb : bkAt l k with
    | none => exact ⟨rfl, fun b h => by cases h⟩
    | some b =>
      cases he : l[k]? with
      | none => exact ⟨rfl, fun b h => by cases h⟩
      | some e =>
        obtain ⟨h3, h4⟩ := event_same (h2 b hb) (e := e) (i := (k : Int)) (by omega)
        exact ⟨h3, h4⟩

theorem ref_of (l : List Eve) : refV l = ofV l := by
  unfold refV ofV
  rw [(at_same l l.length).1]
  cases bkAt l l.length with
  | none => rfl
  | some b => rfl

end Go.Cal
