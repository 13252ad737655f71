/- Variables' cells that say less, or other; growing rows that begin in a variable. -/
import Derived.Test.YtbndjpkncgfpiaaAbM
namespace Go.Ab
set_option linter.unusedVariables false

theorem getB_recell {H : Heap} {id : Nat} {ty : TypeId} {sz fz : Nat} {r r' : List C} (hob : H[id]? = some ⟨1, ty, sz, [r], fz⟩) (hno : r.all noOwn = true) (hno' : r'.all noOwn = true) {id' : Nat} {p : List Hop} {x : Nat × List (List C)}
    (h : getB (H.set id ⟨1, ty, sz, [r'], fz⟩) id' p = some x) : (id' ≠ id ∧ getB H id' p = some x) ∨ (id' = id ∧ p = [] ∧ x = (sz, [r']) ∧ getB H id [] = some (sz, [r])) := by
  obtain ⟨ob, ho, hk, hg⟩ := getB_ob h
  by_cases hi : id' = id
  · subst hi
    right
    rw [List.getElem?_set, if_pos rfl, if_pos (List.getElem?_eq_some_iff.1 hob).1] at ho
    cases ho
    obtain ⟨rfl, rfl⟩ := getT_flat (fun i k c hc => by
      obtain ⟨rfl, hc⟩ := cellAt_one.1 hc
      exact List.all_eq_true.1 hno' c (List.mem_of_getElem? hc)) hg
    exact ⟨rfl, rfl, rfl, by unfold getB; rw [hob]; simp [getT_nil]⟩
  · left
    refine ⟨hi, ?_⟩
    rw [List.getElem?_set, if_neg (Ne.symm hi)] at ho
    unfold getB
    rw [ho]
    simp only [hk, if_true]
    exact hg

/-- **A variable's cells told otherwise.** -/
theorem HRel0.recell {w : World} {E : Env} {H : Heap} (h : HRel0 w E H) {id : Nat} {ty : TypeId} {sz fz : Nat} {r r' : List C} (hob : H[id]? = some ⟨1, ty, sz, [r], fz⟩) (hlen : r'.length = r.length) (hno : r.all noOwn = true) (hno' : r'.all noOwn = true)
    (hc : ∀ (k : Nat) c c' u, r[k]? = some c → r'[k]? = some c' → L E c u → w.cell? ⟨E.β id [], k, none⟩ = some u → L E c' u) : HRel0 w E (H.set id ⟨1, ty, sz, [r'], fz⟩) where
  n := by simpa using h.n
  blk id' ob p sz' rows' hob' hx := by
    rcases getB_recell hob hno hno' hx with ⟨h1, h2⟩ | ⟨rfl, rfl, h1, h2⟩
    · rw [List.getElem?_set, if_neg (Ne.symm h1)] at hob'
      exact h.blk id' ob p sz' rows' hob' h2
    · rw [List.getElem?_set, if_pos rfl, if_pos (List.getElem?_eq_some_iff.1 hob).1] at hob'
      cases hob'
      cases h1
      have hb := h.blk _ _ _ _ _ hob h2
      refine ⟨hb.len, fun q hq => ?_, ?_⟩
      · rw [List.mem_singleton.1 hq, hlen]
        exact hb.row r (List.mem_singleton.2 rfl)
      · obtain ⟨cur, e, h3, h4, h5⟩ := hb.blk
        refine ⟨cur, e, h3, h4, ?_⟩
        intro i k c' hc'
        obtain ⟨rfl, hc'⟩ := cellAt_one.1 hc'
        have hk : k < r.length := by rw [← hlen]; exact (List.getElem?_eq_some_iff.1 hc').1
        have hk' : r[k]? = some r[k] := by simp [hk]
        obtain ⟨u, hu, ho⟩ := h5 0 k r[k] (cellAt_one.2 ⟨rfl, hk'⟩)
        refine ⟨u, hu, ?_⟩
        rw [CellOK.loose (List.all_eq_true.1 hno _ (List.mem_of_getElem? hk'))] at ho
        rw [CellOK.loose (List.all_eq_true.1 hno' c' (List.mem_of_getElem? hc'))]
        refine ⟨?_, ho.2⟩
        have h6 : L E r[k] u := by simpa [Env.at] using ho.1
        have h7 : L E c' u := hc k _ _ u hk' hc' h6 (by
          unfold World.cell?
          rw [h3]
          simpa using hu)
        simpa [Env.at] using h7
  inj i p j q x y hx hy he := by
    have key : ∀ i p x, getB (H.set id ⟨1, ty, sz, [r'], fz⟩) i p = some x → ∃ x', getB H i p = some x' := fun i p x hx => by
      rcases getB_recell hob hno hno' hx with ⟨h1, h2⟩ | ⟨rfl, rfl, h1, h2⟩
      · exact ⟨x, h2⟩
      · exact ⟨_, h2⟩
    obtain ⟨x', hx'⟩ := key i p x hx
    obtain ⟨y', hy'⟩ := key j q y hy
    exact h.inj i p j q x' y' hx' hy' he
  stable := h.stable
  sep i p x o u hx hu := by
    rcases getB_recell hob hno hno' hx with ⟨h1, h2⟩ | ⟨rfl, rfl, h1, h2⟩
    · obtain ⟨e1, ob, e2, e3⟩ := h.sep i p x o u h2 hu
      exact ⟨e1, ob, by rw [List.getElem?_set, if_neg (Ne.symm h1)]; exact e2, e3⟩
    · obtain ⟨e1, ob, e2, e3⟩ := h.sep _ [] _ o u h2 hu
      rw [hob] at e2
      cases e2
      exact ⟨rfl, ⟨1, ty, sz, [r'], fz⟩, by rw [List.getElem?_set, if_pos rfl, if_pos (List.getElem?_eq_some_iff.1 hob).1], e3⟩
  ty i ob ho hk := by
    rw [List.getElem?_set] at ho
    split at ho
    · split at ho
      · cases ho; cases hk
      · cases ho
    · exact h.ty i ob ho hk
  fz i ob ho := by
    rw [List.getElem?_set] at ho
    split at ho
    · split at ho
      · cases ho; have := h.fz id _ hob; exact this
      · cases ho
    · exact h.fz i ob ho

theorem Keep4.set1 {H : Heap} {id : Nat} {ob ob' : Ob} (hob : H[id]? = some ob) (h1 : ob.kind ≠ 4) (h2 : ob'.kind ≠ 4) : Keep4 H (H.set id ob') := fun i o h4 => by
  rw [List.getElem?_set]
  split
  · rename_i e
    subst e
    rw [if_pos (List.getElem?_eq_some_iff.1 hob).1, hob]
    constructor
    · intro e; cases e; exact absurd h4 h2
    · intro e; cases e; exact absurd h4 h1
  · exact Iff.rfl

/-- The same, of the whole heap. -/
theorem HRel.recell {w : World} {E : Env} {H : Heap} (h : HRel w E H) {id : Nat} {ty : TypeId} {sz fz : Nat} {r r' : List C} (hob : H[id]? = some ⟨1, ty, sz, [r], fz⟩) (hlen : r'.length = r.length) (hno : r.all noOwn = true) (hno' : r'.all noOwn = true)
    (hc : ∀ (k : Nat) c c' u, r[k]? = some c → r'[k]? = some c' → L E c u → w.cell? ⟨E.β id [], k, none⟩ = some u → L E c' u) : HRel w E (H.set id ⟨1, ty, sz, [r'], fz⟩) ∧ Grow w E H w E (H.set id ⟨1, ty, sz, [r'], fz⟩) := by
  have hR := h.base.recell hob hlen hno hno' hc
  have hG : Grow0 w E H w E (H.set id ⟨1, ty, sz, [r'], fz⟩) := ⟨Env.le.refl E, fun _ _ _ => rfl, rfl, rfl, rfl, Nat.le_refl _, fun _ _ _ => rfl, fun _ _ _ h => .inl h, fun b ⟨i, p, x, hx, he⟩ => by
    rcases getB_recell hob hno hno' hx with ⟨h1, h2⟩ | ⟨rfl, rfl, h1, h2⟩
    · exact .inr ⟨i, p, x, h2, he⟩
    · exact .inr ⟨_, [], _, h2, he⟩⟩
  have hk := Keep4.set1 (ob' := ⟨1, ty, sz, [r'], fz⟩) hob (fun e => by cases e) (fun e => by cases e)
  exact ⟨⟨hR, Gro.step h hG hk⟩, hG.up h hk⟩

section
variable {B : Nat} {s : S}

/-- A variable's cells that say less. -/
theorem Weak.var (id : Nat) {ty : TypeId} {sz fz : Nat} {r r' : List C} (hob : s.H[id]? = some ⟨1, ty, sz, [r], fz⟩) (hno : r.all noOwn = true) (hno' : r'.all noOwn = true) (hw : WCs r r') : Weak B s ⟨s.tmps, s.H.set id ⟨1, ty, sz, [r'], fz⟩⟩ := fun m w E a hs => by
  have hlen : ∀ {a b : List C}, WCs a b → b.length = a.length := by
    intro a b h
    induction h with
    | nil => rfl
    | cons _ _ ih => simp [ih]
  have hget : ∀ {a b : List C}, WCs a b → ∀ (k : Nat) c c', a[k]? = some c → b[k]? = some c' → WC c c' := by
    intro a b h
    induction h with
    | nil => intro k c c' h; simp at h
    | cons h1 _ ih =>
      intro k c c' e1 e2
      cases k with
      | zero => simp at e1 e2; subst e1 e2; exact h1
      | succ k => exact ih k c c' (by simpa using e1) (by simpa using e2)
  obtain ⟨hR, g⟩ := hs.heap.recell hob (hlen hw) hno hno' fun k c c' u e1 e2 hl _ => hget hw k c c' e1 e2 E u hl
  exact ⟨E, ⟨hR, hs.tmps, hs.defers, by simpa using hs.base⟩, g.toB (by rw [hs.heap.n]; exact hs.base)⟩

/-- **A growing row begins in a variable.** -/
theorem Weak.growH (id k : Nat) (ty' : TypeId) (sz' : Nat) {ty : TypeId} {sz fz sz0 : Nat} {r : List C} {rows : List (List C)} (hob : s.H[id]? = some ⟨1, ty, sz, [r], fz⟩) (hk : r[k]? = some (.lst 1 sz0 rows)) (hz : rows = [] ∨ sz' = sz0) (hno : r.all noOwn = true)
    (hno' : (r.set k (.gl s.H.length sz' rows)).all noOwn = true) :
    Weak B s ⟨s.tmps, s.H.set id ⟨1, ty, sz, [r.set k (.gl s.H.length sz' rows)], fz⟩ ++ [⟨4, ty', sz', rows, 0⟩]⟩ := fun m w E a hs => by
  have hgb : getB s.H id [] = some (sz, [r]) := by unfold getB; rw [hob]; simp [getT_nil]
  have hb := hs.heap.base.blk _ _ _ _ _ hob hgb
  obtain ⟨cur, e, h3, h4, h5⟩ := hb.blk
  obtain ⟨u, hu, ho⟩ := h5 0 k _ (cellAt_one.2 ⟨rfl, hk⟩)
  rw [CellOK.loose rfl] at ho
  have hl : L E (.lst 1 sz0 rows) u := by simpa [Env.at] using ho.1
  obtain ⟨E1, hh1, hl1, g1⟩ := hs.heap.growStart hl ty' hz
  have hlt : id < s.H.length := (List.getElem?_eq_some_iff.1 hob).1
  have hob1 : (s.H ++ [⟨4, ty', sz', rows, 0⟩])[id]? = some ⟨1, ty, sz, [r], fz⟩ := by rw [List.getElem?_append_left hlt]; exact hob
  have hβ : E1.β id [] = E.β id [] := g1.le.β id [] (by rw [hs.heap.n]; exact hlt)
  have hcu : w.cell? ⟨E1.β id [], k, none⟩ = some u := by
    unfold World.cell?
    rw [hβ, h3]
    simpa using hu
  obtain ⟨hR, g2⟩ := hh1.recell hob1 (r' := r.set k (.gl s.H.length sz' rows)) (by simp) hno hno' fun j c c' v e1 e2 hl' hv => by
    rw [List.getElem?_set] at e2
    split at e2
    · rename_i e
      subst e
      rw [hcu] at hv
      cases hv
      split at e2
      · cases e2; exact hl1
      · cases e2
    · rw [e1] at e2
      cases e2
      exact hl'
  rw [List.set_append_left _ _ hlt] at hR g2
  have g := g1.trans g2
  exact ⟨E1, ⟨hR, hs.tmps.mono g.le, hs.defers.grow hs.heap g, by have := hs.base; simp; omega⟩, g.toB (by rw [hs.heap.n]; exact hs.base)⟩

end
end Go.Ab
