/- Writing into an object's block. -/
import Derived.Test.YtbndjpkncgfpiaaAb5
namespace Go.Ab
set_option linter.unusedVariables false

def setCell (rows : List (List C)) (i k : Nat) (c : C) : List (List C) := rows.modify i (·.set k c)

def setT : List (List C) → List Hop → (List (List C) → List (List C)) → List (List C)
  | rows, [], f => f rows
  | rows, (i, k) :: hs, f => match cellAt rows i k with
    | some (.lst 2 sz' rows') => setCell rows i k (.lst 2 sz' (setT rows' hs f))
    | _ => rows

theorem setT_nil (rows : List (List C)) (f : List (List C) → List (List C)) : setT rows [] f = f rows := rfl
theorem setT_cons (rows : List (List C)) (i k : Nat) (hs : List Hop) (f : List (List C) → List (List C)) : setT rows ((i, k) :: hs) f = match cellAt rows i k with
    | some (.lst 2 sz' rows') => setCell rows i k (.lst 2 sz' (setT rows' hs f))
    | _ => rows := rfl

theorem setCell_length (rows : List (List C)) (i k : Nat) (c : C) : (setCell rows i k c).length = rows.length := by simp [setCell]

theorem cellAt_setCell (rows : List (List C)) (i k : Nat) (c : C) (i' k' : Nat) : cellAt (setCell rows i k c) i' k' = if i = i' ∧ k = k' then (cellAt rows i' k').map (fun _ => c) else cellAt rows i' k' := by
  unfold cellAt setCell
  rw [List.getElem?_modify]
  by_cases hi : i = i'
  · subst hi
    cases hr : rows[i]? with
    | none => simp
    | some r =>
      simp only [if_true, Option.map_eq_map, Option.map_some, Option.bind_some, true_and]
      rw [List.getElem?_set]
      by_cases hk : k = k'
      · subst hk
        simp only [if_true]
        by_cases hlt : k < r.length
        · simp [hlt]
        · simp [hlt]
      · simp [hk]
  · simp [hi]

theorem setCell_row {rows : List (List C)} {sz : Nat} (h : ∀ r ∈ rows, r.length = sz) (i k : Nat) (c : C) : ∀ r ∈ setCell rows i k c, r.length = sz := by
  intro r hr
  obtain ⟨j, hj⟩ := List.mem_iff_getElem?.1 hr
  unfold setCell at hj
  rw [List.getElem?_modify] at hj
  cases hx : rows[j]? with
  | none => rw [hx] at hj; cases hj
  | some r0 =>
    rw [hx] at hj
    have h0 := h r0 (List.mem_of_getElem? hx)
    simp only [Option.map_eq_map, Option.map_some, Option.some.injEq] at hj
    subst hj
    split <;> simp [h0]

/-- A change of rows that leaves alone what is owned, and all lengths. -/
structure Tame (rows rows' : List (List C)) : Prop where
  len : rows'.length = rows.length
  own : ∀ i k s r, cellAt rows' i k = some (.lst 2 s r) ↔ cellAt rows i k = some (.lst 2 s r)

/-- Rows that are the same but for what is inside of what they own. -/
structure Like (rows rows' : List (List C)) : Prop where
  len : rows'.length = rows.length
  cell : ∀ i k c', cellAt rows' i k = some c' → ∃ c, cellAt rows i k = some c ∧ (c = c' ∨ ∃ s r r', c = .lst 2 s r ∧ c' = .lst 2 s r' ∧ r'.length = r.length)
  row : ∀ sz, (∀ r ∈ rows, r.length = sz) → ∀ r ∈ rows', r.length = sz

theorem Like.refl (rows : List (List C)) : Like rows rows := ⟨rfl, fun i k c h => ⟨c, h, .inl rfl⟩, fun _ h => h⟩

theorem setT_length {f : List (List C) → List (List C)} : ∀ (hops : List Hop) (sz : Nat) (rows : List (List C)) (sz' : Nat) (rows' : List (List C)), getT sz rows hops = some (sz', rows') → Tame rows' (f rows') → (setT rows hops f).length = rows.length
  | [], sz, rows, sz', rows', h, ht => by rw [getT_nil] at h; cases h; rw [setT_nil]; exact ht.len
  | (i, k) :: hs, sz, rows, sz', rows', h, ht => by
    rw [setT_cons]
    split
    · exact setCell_length _ _ _ _
    · rfl

theorem getT_setT {f : List (List C) → List (List C)} : ∀ (hops : List Hop) (sz : Nat) (rows : List (List C)) (sz' : Nat) (rows' : List (List C)), getT sz rows hops = some (sz', rows') → Tame rows' (f rows') →
    ∀ (p : List Hop) (sz2 : Nat) (rows2' : List (List C)), getT sz (setT rows hops f) p = some (sz2, rows2') →
      ∃ rows2, getT sz rows p = some (sz2, rows2) ∧ ((p = hops ∧ rows2' = f rows2) ∨ (p ≠ hops ∧ Like rows2 rows2'))
  | [], sz, rows, sz', rows', h, ht, p, sz2, rows2', hp => by
    rw [getT_nil] at h
    cases h
    rw [setT_nil] at hp
    cases p with
    | nil => rw [getT_nil] at hp; cases hp; exact ⟨rows, rfl, .inl ⟨rfl, rfl⟩⟩
    | cons hd q =>
      obtain ⟨i, k⟩ := hd
      rw [getT_cons] at hp
      split at hp
      · rename_i s r hc
        rw [ht.own] at hc
        exact ⟨rows2', by rw [getT_cons, hc]; exact hp, .inr ⟨by simp, Like.refl _⟩⟩
      · cases hp
  | (i, k) :: hs, sz, rows, sz', rows', h, ht, p, sz2, rows2', hp => by
    rw [getT_cons] at h
    split at h
    · rename_i s r hc
      have hset : setT rows ((i, k) :: hs) f = setCell rows i k (.lst 2 s (setT r hs f)) := by rw [setT_cons, hc]; rfl
      rw [hset] at hp
      cases p with
      | nil =>
        rw [getT_nil] at hp
        cases hp
        refine ⟨rows, rfl, .inr ⟨by simp, setCell_length _ _ _ _, ?_, fun sz0 h0 => setCell_row h0 _ _ _⟩⟩
        intro i' k' c' hcc
        rw [cellAt_setCell] at hcc
        split at hcc
        · rename_i hik
          obtain ⟨rfl, rfl⟩ := hik
          rw [hc] at hcc
          simp only [Option.map_some, Option.some.injEq] at hcc
          subst hcc
          exact ⟨_, hc, .inr ⟨s, r, _, rfl, rfl, setT_length hs s r sz' rows' h ht⟩⟩
        · exact ⟨c', hcc, .inl rfl⟩
      | cons hd q =>
        obtain ⟨i', k'⟩ := hd
        rw [getT_cons, cellAt_setCell] at hp
        by_cases hik : i = i' ∧ k = k'
        · obtain ⟨rfl, rfl⟩ := hik
          rw [if_pos ⟨rfl, rfl⟩, hc] at hp
          simp only [Option.map_some] at hp
          obtain ⟨rows2, h2, h3⟩ := getT_setT hs s r sz' rows' h ht q sz2 rows2' hp
          refine ⟨rows2, by rw [getT_cons, hc]; exact h2, ?_⟩
          rcases h3 with ⟨rfl, e⟩ | ⟨hne, hlk⟩
          · exact .inl ⟨rfl, e⟩
          · exact .inr ⟨fun e => hne (by simpa using e), hlk⟩
        · rw [if_neg hik] at hp
          refine ⟨rows2', by rw [getT_cons]; exact hp, .inr ⟨?_, Like.refl _⟩⟩
          intro e
          simp at e
          exact hik ⟨e.1.1.symm, e.1.2.symm⟩
    · cases h

/-- The heap, where that object's rows at a place are turned. -/
def setB (H : Heap) (id : Nat) (hops : List Hop) (f : List (List C) → List (List C)) : Heap := H.modify id fun ob => match ob with
  | ⟨kind, ty, sz, rows, fz⟩ => ⟨kind, ty, sz, setT rows hops f, fz⟩

theorem setB_get (H : Heap) (id : Nat) (hops : List Hop) (f : List (List C) → List (List C)) (j : Nat) : (setB H id hops f)[j]? = (H[j]?).map fun ob => if id = j then { ob with rows := setT ob.rows hops f } else ob := by
  unfold setB
  rw [List.getElem?_modify]
  rfl

theorem getB_setB {H : Heap} {id : Nat} {hops : List Hop} {f : List (List C) → List (List C)} {sz : Nat} {rows : List (List C)} (hb : getB H id hops = some (sz, rows)) (ht : Tame rows (f rows)) {id' : Nat} {p : List Hop}
    {sz2 : Nat} {rows2' : List (List C)} (hp : getB (setB H id hops f) id' p = some (sz2, rows2')) :
    ∃ rows2, getB H id' p = some (sz2, rows2) ∧ ((id' = id ∧ p = hops ∧ rows2' = f rows2) ∨ (¬ (id' = id ∧ p = hops) ∧ Like rows2 rows2')) := by
  obtain ⟨ob, hob, hk, hg⟩ := getB_ob hb
  obtain ⟨ob', hob', hk', hg'⟩ := getB_ob hp
  rw [setB_get] at hob'
  by_cases hid : id = id'
  · subst hid
    rw [hob] at hob'
    simp only [Option.map_some, if_true, Option.some.injEq] at hob'
    subst hob'
    obtain ⟨rows2, h2, h3⟩ := getT_setT hops ob.sz ob.rows sz rows hg ht p sz2 rows2' hg'
    refine ⟨rows2, ?_, ?_⟩
    · unfold getB
      rw [hob]
      simp only [hk, if_true]
      exact h2
    · rcases h3 with ⟨rfl, e⟩ | ⟨hne, hlk⟩
      · exact .inl ⟨rfl, rfl, e⟩
      · exact .inr ⟨fun e => hne e.2, hlk⟩
  · cases hx : H[id']? with
    | none => rw [hx] at hob'; cases hob'
    | some ob2 =>
      rw [hx] at hob'
      simp only [Option.map_some, hid, if_false, Option.some.injEq] at hob'
      subst hob'
      refine ⟨rows2', ?_, .inr ⟨fun e => hid e.1.symm, Like.refl _⟩⟩
      unfold getB
      rw [hx]
      simp only [hk', if_true]
      exact hg'

theorem frozen_of_zero {w : World} {g : Nat} {cur : Array Value} {e : TypeId} (hg : w.heap[g]? = some (.cells cur e (0, 0))) : True := trivial

/-- **An object's rows and its block are turned together.** -/
theorem HRel0.write {w : World} {E : Env} {H : Heap} (h : HRel0 w E H) {id : Nat} {hops : List Hop} {ob : Ob} {sz : Nat} {rows : List (List C)} {f : List (List C) → List (List C)} (hob : H[id]? = some ob)
    (hb : getB H id hops = some (sz, rows)) (ht : Tame rows (f rows)) (hrow : ∀ r ∈ f rows, r.length = sz) {cur cur' : Array Value} {e : TypeId} (hg : w.heap[E.β id hops]? = some (.cells cur e (0, 0))) (hsz : cur'.size = cur.size)
    (hst : ∀ o u, E.St (E.β id hops) o = some u → cur'[o]? = some u)
    (hc : ∀ i k c, cellAt (f rows) i k = some c → ∃ u, cur'[i * sz + k]? = some u ∧ CellOK E ob.kind id hops i k c u) :
    HRel0 (w.setRow (E.β id hops) cur') E (setB H id hops f) ∧ Grow0 w E H (w.setRow (E.β id hops) cur') E (setB H id hops f) := by
  have hown : ∀ b, Owned0 E (setB H id hops f) b → Owned0 E H b := by
    rintro b ⟨id', p, ⟨s2, r2⟩, hx, rfl⟩
    obtain ⟨rows2, h2, _⟩ := getB_setB hb ht hx
    exact ⟨id', p, _, h2, rfl⟩
  refine ⟨⟨by rw [h.n]; simp [setB], ?_, ?_, ?_, ?_, ?_, ?_⟩, ⟨Env.le.refl E, fun _ _ _ => rfl, rfl, rfl, rfl, by simp [World.setRow], ?_, fun b o u hu => .inl hu, fun b hb' => .inr (hown b hb')⟩⟩
  · intro id' ob' p sz2 rows2' hob' hx
    obtain ⟨rows2, h2, h3⟩ := getB_setB hb ht hx
    have hkd : ∃ ob0, H[id']? = some ob0 ∧ ob'.kind = ob0.kind := by
      rw [setB_get] at hob'
      cases hx' : H[id']? with
      | none => rw [hx'] at hob'; cases hob'
      | some ob0 =>
        rw [hx'] at hob'
        simp only [Option.map_some, Option.some.injEq] at hob'
        subst hob'
        exact ⟨ob0, rfl, by split <;> rfl⟩
    obtain ⟨ob0, hob0, hkd⟩ := hkd
    have hB := h.blk id' ob0 p sz2 rows2 hob0 h2
    rw [hkd]
    rcases h3 with ⟨rfl, rfl, rfl⟩ | ⟨hne, hlk⟩
    · rw [hb] at h2
      cases h2
      rw [hob] at hob0
      cases hob0
      obtain ⟨cur0, e0, hg0, hs0, _⟩ := hB.blk
      rw [hg] at hg0
      cases hg0
      exact ⟨by rw [ht.len]; exact hB.len, hrow, cur', e, setRow_heap w _ cur cur' e _ hg, by rw [hsz]; exact hs0, hc⟩
    · obtain ⟨cur0, e0, hg0, hs0, hc0⟩ := hB.blk
      have hdiff : E.β id' p ≠ E.β id hops := fun he => hne (by
        have := h.inj id' p id hops _ _ h2 hb he
        exact this)
      refine ⟨by rw [hlk.len]; exact hB.len, hlk.row sz2 hB.row, cur0, e0, by rw [setRow_other w _ _ _ hdiff]; exact hg0, hs0, ?_⟩
      intro i k c' hcc
      obtain ⟨c, h4, h5⟩ := hlk.cell i k c' hcc
      obtain ⟨u, hu, ho⟩ := hc0 i k c h4
      refine ⟨u, hu, ?_⟩
      rcases h5 with rfl | ⟨s, r, r', rfl, rfl, hl⟩
      · exact ho
      · simp only [CellOK] at ho ⊢
        rw [hl]; exact ho
  · intro id1 p1 id2 p2 x y hx hy he
    obtain ⟨r1, h1, _⟩ := getB_setB hb ht (rows2' := x.2) (sz2 := x.1) (by simpa using hx)
    obtain ⟨r2, h2, _⟩ := getB_setB hb ht (rows2' := y.2) (sz2 := y.1) (by simpa using hy)
    exact h.inj id1 p1 id2 p2 _ _ h1 h2 he
  · intro b o u hu
    refine ⟨?_, (h.stable b o u hu).2⟩
    by_cases hbb : b = E.β id hops
    · subst hbb
      unfold World.cell?
      rw [setRow_heap w _ cur cur' e _ hg]
      simp
      exact hst o u hu
    · have := (h.stable b o u hu).1
      unfold World.cell? at this ⊢
      simp only [setRow_other w _ _ _ hbb]
      exact this
  · intro id' p x o u hx hu
    obtain ⟨r1, h1, _⟩ := getB_setB hb ht (rows2' := x.2) (sz2 := x.1) (by simpa using hx)
    obtain ⟨e1, ob', e2, e3⟩ := h.sep id' p _ o u h1 hu
    refine ⟨e1, ?_⟩
    rw [setB_get, e2]
    exact ⟨_, rfl, by split <;> exact e3⟩
  · intro id' ob' hob' hk
    rw [setB_get] at hob'
    cases hx' : H[id']? with
    | none => rw [hx'] at hob'; cases hob'
    | some ob0 =>
      rw [hx'] at hob'
      simp only [Option.map_some, Option.some.injEq] at hob'
      have hk0 : ob0.kind = 2 ∧ ob'.ty = ob0.ty := by subst hob'; revert hk; split <;> exact fun h => ⟨h, rfl⟩
      obtain ⟨cur0, hc0⟩ := h.ty id' ob0 hx' hk0.1
      rw [hk0.2]
      by_cases hbb : E.β id' [] = E.β id hops
      · rw [hbb] at hc0 ⊢
        rw [hg] at hc0
        cases hc0
        exact ⟨cur', setRow_heap w _ cur cur' _ _ hg⟩
      · exact ⟨cur0, by rw [setRow_other w _ _ _ hbb]; exact hc0⟩
  · intro id' ob' hob'
    rw [setB_get] at hob'
    cases hx' : H[id']? with
    | none => rw [hx'] at hob'; cases hob'
    | some ob0 =>
      rw [hx'] at hob'
      simp only [Option.map_some, Option.some.injEq] at hob'
      have h0 := h.fz id' ob0 hx'
      subst hob'
      split
      · rename_i hid
        subst hid
        rw [hob] at hx'
        cases hx'
        obtain ⟨ob2, h1, _, h2⟩ := getB_ob hb
        rw [hob] at h1
        cases h1
        dsimp only
        rw [setT_length hops _ _ _ _ h2 ht]
        exact h0
      · exact h0
  · intro k hk ho
    rw [setRow_other w _ _ _ (fun e' => ho ⟨id, hops, _, hb, e'.symm⟩)]

end Go.Ab
