/- Appends, slices made and cut, over an abstract state. -/
import Derived.Test.YtbndjpkncgfpiaaAb9
namespace Go.Ab
set_option linter.unusedVariables false

/-- An object dies. -/
def killB (H : Heap) (id : Nat) : Heap := H.modify id fun ob => match ob with
  | ⟨_, ty, sz, rows, fz⟩ => ⟨0, ty, sz, rows, fz⟩

theorem killB_get (H : Heap) (id j : Nat) : (killB H id)[j]? = (H[j]?).map fun ob => if id = j then { ob with kind := 0 } else ob := by
  unfold killB
  rw [List.getElem?_modify]
  rfl

theorem getB_killB {H : Heap} {id : Nat} {id' : Nat} {p : List Hop} {x : Nat × List (List C)} (h : getB (killB H id) id' p = some x) : id' ≠ id ∧ getB H id' p = some x := by
  obtain ⟨ob, ho, hk, hg⟩ := getB_ob h
  rw [killB_get] at ho
  cases hx : H[id']? with
  | none => rw [hx] at ho; cases ho
  | some ob0 =>
    rw [hx] at ho
    simp only [Option.map_some, Option.some.injEq] at ho
    by_cases hid : id = id'
    · subst hid
      simp at ho
      subst ho
      simp at hk
    · rw [if_neg hid] at ho
      subst ho
      refine ⟨Ne.symm hid, ?_⟩
      unfold getB
      rw [hx]
      simp only [hk, if_true]
      exact hg

theorem HRel0.kill {w : World} {E : Env} {H : Heap} (h : HRel0 w E H) (id : Nat) : HRel0 w E (killB H id) where
  n := by rw [h.n]; simp [killB]
  blk id' ob p sz rows hob hx := by
    obtain ⟨h1, h2⟩ := getB_killB hx
    rw [killB_get] at hob
    cases hx' : H[id']? with
    | none => rw [hx'] at hob; cases hob
    | some ob0 =>
      rw [hx'] at hob
      simp only [Option.map_some, Option.some.injEq, if_neg (Ne.symm h1)] at hob
      subst hob
      exact h.blk id' _ p sz rows hx' h2
  inj id1 p1 id2 p2 x y hx hy he := h.inj id1 p1 id2 p2 x y (getB_killB hx).2 (getB_killB hy).2 he
  stable := h.stable
  sep id' p x o u hx hu := by
    obtain ⟨h1, h2⟩ := getB_killB hx
    obtain ⟨e1, ob, e2, e3⟩ := h.sep id' p x o u h2 hu
    refine ⟨e1, ob, ?_, e3⟩
    rw [killB_get, e2]
    simp [Ne.symm h1]
  ty id' ob hob hk := by
    rw [killB_get] at hob
    cases hx' : H[id']? with
    | none => rw [hx'] at hob; cases hob
    | some ob0 =>
      rw [hx'] at hob
      simp only [Option.map_some, Option.some.injEq] at hob
      by_cases hid : id = id'
      · rw [if_pos hid] at hob; subst hob; simp at hk
      · rw [if_neg hid] at hob; subst hob; exact h.ty id' _ hx' hk
  fz id' ob hob := by
    rw [killB_get] at hob
    cases hx' : H[id']? with
    | none => rw [hx'] at hob; cases hob
    | some ob0 =>
      rw [hx'] at hob
      simp only [Option.map_some, Option.some.injEq] at hob
      have h0 := h.fz id' ob0 hx'
      subst hob
      split <;> exact h0

theorem Grow0.kill (w : World) (E : Env) (H : Heap) (id : Nat) : Grow0 w E H w E (killB H id) :=
  ⟨Env.le.refl E, fun _ _ _ => rfl, rfl, rfl, rfl, Nat.le_refl _, fun _ _ _ => rfl, fun _ _ _ h => .inl h, fun b ⟨id', p, x, hx, he⟩ => .inr ⟨id', p, x, (getB_killB hx).2, he⟩⟩

/-- A dead object's block, wholly of the call's own still, becomes a new object's. -/
def Env.again (E : Env) (id : Nat) : Env :=
  { n := E.n + 1, β := fun id' hops => if id' = E.n then E.β id hops else E.β id' hops, κ := fun id' hops => if id' = E.n then E.κ id hops else E.κ id' hops, St := E.St, G := E.G }

theorem Env.again_le (E : Env) (id : Nat) : E.le (E.again id) :=
  ⟨Nat.le_succ _, fun id' hops h => by simp [Env.again, Nat.ne_of_lt h], fun id' hops h => by simp [Env.again, Nat.ne_of_lt h], fun b o u h => h, fun _ _ _ _ h => h⟩

theorem World.drew_heap (w : World) : w.drew.heap = w.heap := rfl
theorem drew_cell (w : World) (a : Addr) : w.drew.cell? a = w.cell? a := rfl

theorem HRel0.drew {w : World} {E : Env} {H : Heap} (h : HRel0 w E H) : HRel0 w.drew E H :=
  ⟨h.n, fun id ob p sz rows h1 h2 => let b := h.blk id ob p sz rows h1 h2; ⟨b.len, b.row, b.blk⟩, h.inj, h.stable, h.sep, h.ty, h.fz⟩

theorem Grow0.drew (w : World) (E : Env) (H : Heap) : Grow0 w E H w.drew E H :=
  ⟨Env.le.refl E, fun _ _ _ => rfl, rfl, rfl, rfl, Nat.le_refl _, fun _ _ _ => rfl, fun _ _ _ h => .inl h, fun _ h => .inr h⟩

/-- Rows that stand in an array's block. -/
theorem RowsL.noOwn {E : Env} {sz : Nat} {rows : List (List C)} {vals : List Value} (h : RowsL E sz rows vals) {i k : Nat} {c : C} (hc : cellAt rows i k = some c) : noOwn c = true := by
  obtain ⟨u, _, hl⟩ := h.cell i k c hc
  cases hl with
  | lst o sz rows b off cap us ho _ _ _ _ => rcases ho with rfl | ⟨rfl, _⟩ <;> rfl
  | lnil o sz ho => rcases ho with rfl | rfl <;> rfl
  | _ => rfl

/-- **A new array object, its rows known as values.** -/
theorem HRel0.pushArr {w : World} {E : Env} {H : Heap} (h : HRel0 w E H) (ty : TypeId) {sz κ : Nat} {rows : List (List C)} {vals : List Value} (hr : RowsL E sz rows vals) {cur : Array Value} (hlen : rows.length ≤ κ) (hcur : cur.size = κ * sz)
    (htake : cur.toList.take vals.length = vals) :
    HRel0 (w.alloc (.cells cur ty)) (E.push w.heap.size κ) (H ++ [⟨2, ty, sz, rows, 0⟩]) ∧ Grow0 w E H (w.alloc (.cells cur ty)) (E.push w.heap.size κ) (H ++ [⟨2, ty, sz, rows, 0⟩]) := by
  refine h.push 2 ty sz κ rows cur (.inr rfl) hr.row hlen hcur (fun i k c hc => hr.noOwn hc) ?_
  intro i k c hc
  obtain ⟨u, hu, hl⟩ := hr.cell i k c hc
  refine ⟨u, ?_, by simpa [Env.at] using hl, hr.one u (List.mem_of_getElem? hu)⟩
  rw [← htake, List.getElem?_take] at hu
  split at hu
  · simpa using hu
  · cases hu

/-- The same, where some rows are told not to change any more. -/
theorem HRel0.pushArrF {w : World} {E : Env} {H : Heap} (h : HRel0 w E H) (ty : TypeId) {sz κ : Nat} {rows : List (List C)} {vals : List Value} (hr : RowsL E sz rows vals) {cur : Array Value} (hlen : rows.length ≤ κ) (hcur : cur.size = κ * sz)
    (htake : cur.toList.take vals.length = vals) (fz : Nat) (hfz : fz ≤ rows.length) :
    HRel0 (w.alloc (.cells cur ty)) (E.push w.heap.size κ) (H ++ [⟨2, ty, sz, rows, fz⟩]) ∧ Grow0 w E H (w.alloc (.cells cur ty)) (E.push w.heap.size κ) (H ++ [⟨2, ty, sz, rows, fz⟩]) := by
  obtain ⟨h1, h2⟩ := h.pushArr ty hr hlen hcur htake
  have hgb : ∀ id p, getB (H ++ [⟨2, ty, sz, rows, fz⟩]) id p = getB (H ++ [⟨2, ty, sz, rows, 0⟩]) id p := by
    intro id p
    unfold getB
    by_cases hlt : id < H.length
    · rw [List.getElem?_append_left hlt, List.getElem?_append_left hlt]
    · rw [List.getElem?_append_right (by omega), List.getElem?_append_right (by omega)]
      cases id - H.length <;> simp
  have hob : ∀ id ob, (H ++ [⟨2, ty, sz, rows, fz⟩])[id]? = some ob → ∃ ob', (H ++ [⟨2, ty, sz, rows, 0⟩])[id]? = some ob' ∧ ob.kind = ob'.kind ∧ ob.ty = ob'.ty ∧ (id < H.length → ob = ob') ∧ (¬ id < H.length → ob.fz = fz ∧ ob.rows = rows) := by
    intro id ob hob
    by_cases hlt : id < H.length
    · rw [List.getElem?_append_left hlt] at hob
      exact ⟨ob, by rw [List.getElem?_append_left hlt]; exact hob, rfl, rfl, fun _ => rfl, fun hn => absurd hlt hn⟩
    · rw [List.getElem?_append_right (by omega)] at hob
      rw [List.getElem?_append_right (by omega)]
      cases hd : id - H.length with
      | zero => rw [hd] at hob; simp at hob; subst hob; exact ⟨_, rfl, rfl, rfl, fun hl => absurd hl hlt, fun _ => ⟨rfl, rfl⟩⟩
      | succ n => rw [hd] at hob; simp at hob
  refine ⟨⟨by rw [h1.n]; simp, ?_, ?_, h1.stable, ?_, ?_, ?_⟩, ⟨h2.le, h2.keepG, h2.os, h2.tape, h2.output, h2.size, h2.frame, h2.newSt, ?_⟩⟩
  · intro id ob p s2 r2 h3 h4
    obtain ⟨ob', h5, h6, _⟩ := hob id ob h3
    rw [hgb] at h4
    rw [h6]
    exact h1.blk id ob' p s2 r2 h5 h4
  · intro id p id' p' x y hx hy he
    rw [hgb] at hx hy
    exact h1.inj id p id' p' x y hx hy he
  · intro id p x o u hx hu
    rw [hgb] at hx
    obtain ⟨e1, ob, e2, e3⟩ := h1.sep id p x o u hx hu
    refine ⟨e1, ?_⟩
    by_cases hlt : id < H.length
    · rw [List.getElem?_append_left hlt] at e2 ⊢
      exact ⟨ob, e2, e3⟩
    · exfalso
      have h5 := (List.getElem?_eq_some_iff.1 e2).1
      simp at h5
      have : id = H.length := by omega
      subst this
      simp at e2
      subst e2
      simp at e3
  · intro id ob h3 h4
    obtain ⟨ob', h5, h6, h7, _⟩ := hob id ob h3
    rw [h7]
    exact h1.ty id ob' h5 (by rw [← h6]; exact h4)
  · intro id ob h3
    obtain ⟨ob', h5, _, _, h8, h9⟩ := hob id ob h3
    by_cases hlt : id < H.length
    · rw [h8 hlt]; exact h1.fz id ob' h5
    · obtain ⟨e1, e2⟩ := h9 hlt
      rw [e1, e2]; exact hfz
  · rintro b ⟨id, p, x, hx, hb⟩
    rw [hgb] at hx
    exact h2.own b ⟨id, p, x, hx, hb⟩

theorem L_arr {E : Env} {H : Heap} (hn : E.n = H.length) (g κ sz len : Nat) (full : Bool) (cap : Nat) (hlen : len ≤ cap) (hf : full = true → cap = len) (hf' : full = false → cap = κ) :
    L (E.push g κ) (.sl H.length [] sz 0 len full) (.slice (some ⟨g, 0, none⟩) len cap) := by
  have := L.sl (E := E.push g κ) H.length [] sz 0 len full cap (by simp [Env.push, hn]) hlen hf (fun e => by simp [Env.push, hn, hf' e])
  have hb : (E.push g κ).β H.length [] = g := by simp [Env.push, hn]
  rw [hb, Nat.zero_mul] at this
  exact this

/-- **An array object is told anew: its block, written to behind its rows, is a new object's.** -/
theorem HRel0.again {w : World} {E : Env} {H : Heap} (hh : HRel0 w E H) {id : Nat} {ob : Ob} (hob : H[id]? = some ob) (hkd : ob.kind = 2) {rows : List (List C)} {vals : List Value} (hall : RowsL E ob.sz rows vals)
    {cur cur' : Array Value} (hg : w.heap[E.β id []]? = some (.cells cur ob.ty (0, 0))) (hsize : cur'.size = E.κ id [] * ob.sz) (hlen : rows.length ≤ E.κ id []) (htake : cur'.toList.take vals.length = vals) (hfz : ob.fz ≤ rows.length)
    (hst : ∀ o u, E.St (E.β id []) o = some u → cur'[o]? = some u) :
    HRel0 (w.setRow (E.β id []) cur') (E.again id) (killB H id ++ [⟨2, ob.ty, ob.sz, rows, ob.fz⟩]) ∧ Grow0 w E H (w.setRow (E.β id []) cur') (E.again id) (killB H id ++ [⟨2, ob.ty, ob.sz, rows, ob.fz⟩]) := by
  have hgb : getB H id [] = some (ob.sz, ob.rows) := by unfold getB; rw [hob]; simp [hkd, getT_nil]
  have hnew : ∀ hops, (E.again id).β H.length hops = E.β id hops := fun hops => by simp [Env.again, hh.n]
  have hle := E.again_le id
  have hold' : ∀ id' hops, id' < H.length → (E.again id).β id' hops = E.β id' hops := fun id' hops hlt => hle.β id' hops (by rw [hh.n]; exact hlt)
  have hkl : (killB H id).length = H.length := by simp [killB]
  have get : ∀ id' p x, getB (killB H id ++ [⟨2, ob.ty, ob.sz, rows, ob.fz⟩]) id' p = some x → (id' < H.length ∧ id' ≠ id ∧ getB H id' p = some x) ∨ (id' = H.length ∧ p = [] ∧ x = (ob.sz, rows)) := by
    intro id' p x hx'
    by_cases hlt : id' < H.length
    · rw [getB_append (by rw [hkl]; exact hlt)] at hx'
      obtain ⟨h5, h6⟩ := getB_killB hx'
      exact .inl ⟨hlt, h5, h6⟩
    · have h5 := getB_lt hx'
      simp [hkl] at h5
      have : id' = H.length := by omega
      subst this
      simp only [getB, ← hkl, List.getElem?_append_right (Nat.le_refl _), Nat.sub_self, List.getElem?_cons_zero] at hx'
      rw [if_pos (by simp)] at hx'
      obtain ⟨h6, h7⟩ := getT_flat (fun i k c hc => hall.noOwn hc) hx'
      exact .inr ⟨rfl, h6, h7⟩
  have hdiff : ∀ id' p x, id' ≠ id → getB H id' p = some x → E.β id' p ≠ E.β id [] := fun id' p x hne' hx' he => hne' (hh.inj id' p id [] _ _ hx' hgb he).1
  have hget : ∀ id' ob', (killB H id ++ [⟨2, ob.ty, ob.sz, rows, ob.fz⟩])[id']? = some ob' → (id' < H.length ∧ ∃ ob0, H[id']? = some ob0 ∧ ((id' = id ∧ ob' = { ob0 with kind := 0 }) ∨ (id' ≠ id ∧ ob' = ob0))) ∨ (id' = H.length ∧ ob' = ⟨2, ob.ty, ob.sz, rows, ob.fz⟩) := by
    intro id' ob' hob'
    by_cases hlt : id' < H.length
    · left
      rw [List.getElem?_append_left (by rw [hkl]; exact hlt), killB_get] at hob'
      cases hx3 : H[id']? with
      | none => rw [hx3] at hob'; cases hob'
      | some ob0 =>
        rw [hx3] at hob'
        simp only [Option.map_some, Option.some.injEq] at hob'
        refine ⟨hlt, ob0, rfl, ?_⟩
        by_cases hid : id = id'
        · subst hid; rw [if_pos rfl] at hob'; exact .inl ⟨rfl, hob'.symm⟩
        · rw [if_neg hid] at hob'; exact .inr ⟨Ne.symm hid, hob'.symm⟩
    · right
      have h1 := (List.getElem?_eq_some_iff.1 hob').1
      simp [hkl] at h1
      have : id' = H.length := by omega
      subst this
      rw [← hkl] at hob'
      simp at hob'
      exact ⟨rfl, hob'.symm⟩
  refine ⟨⟨by simp [Env.again, hh.n, hkl], ?_, ?_, ?_, ?_, ?_, ?_⟩, ⟨hle, fun _ _ _ => rfl, rfl, rfl, rfl, by simp [World.setRow], ?_, fun b o' u hu' => .inl hu', ?_⟩⟩
  · intro id' ob' p sz' r' hob' hx'
    rcases get id' p _ hx' with ⟨hlt, hne', hx2⟩ | ⟨rfl, rfl, hx2⟩
    · rcases hget id' ob' hob' with ⟨_, ob0, h1, ⟨h2, _⟩ | ⟨_, h2⟩⟩ | ⟨h2, _⟩
      · exact absurd h2 hne'
      · subst h2
        exact (hh.blk id' _ p sz' r' h1 hx2).step hle (by rw [hh.n]; exact hlt) (setRow_other w _ _ _ (hdiff id' p _ hne' hx2))
      · omega
    · cases hx2
      rcases hget _ ob' hob' with ⟨h1, _⟩ | ⟨_, h2⟩
      · omega
      · subst h2
        refine ⟨by simp [Env.again, hh.n]; exact hlen, hall.row, cur', ob.ty, by rw [hnew]; exact setRow_heap w _ cur cur' _ _ hg, by simp [Env.again, hh.n]; exact hsize, ?_⟩
        intro i' k c hc
        obtain ⟨u, hu', hl'⟩ := hall.cell i' k c hc
        refine ⟨u, ?_, (CellOK.loose (hall.noOwn hc)).2 ⟨by simpa [Env.at] using hl'.mono hle.shut, hall.one u (List.mem_of_getElem? hu')⟩⟩
        rw [← htake, List.getElem?_take] at hu'
        split at hu'
        · simpa using hu'
        · cases hu'
  · intro id1 p1 id2 p2 x y hx' hy' he
    rcases get id1 p1 _ hx' with ⟨hlt, hne', hx2⟩ | ⟨rfl, rfl, _⟩ <;> rcases get id2 p2 _ hy' with ⟨hlt', hne2, hy2⟩ | ⟨rfl, rfl, _⟩
    · rw [hold' id1 p1 hlt, hold' id2 p2 hlt'] at he
      exact hh.inj id1 p1 id2 p2 x y hx2 hy2 he
    · rw [hold' id1 p1 hlt, hnew] at he
      exact absurd he (hdiff id1 p1 _ hne' hx2)
    · rw [hold' id2 p2 hlt', hnew] at he
      exact absurd he.symm (hdiff id2 p2 _ hne2 hy2)
    · exact ⟨rfl, rfl⟩
  · intro b o' u hu'
    refine ⟨?_, (hh.stable b o' u hu').2⟩
    have hst' := (hh.stable b o' u hu').1
    by_cases hbb : b = E.β id []
    · subst hbb
      unfold World.cell?
      rw [setRow_heap w _ cur cur' _ _ hg]
      simpa using hst o' u hu'
    · unfold World.cell? at hst' ⊢
      simp only [setRow_other w _ _ _ hbb]
      exact hst'
  · intro id' p x o' u hx' hu'
    rcases get id' p _ hx' with ⟨hlt, hne', hx2⟩ | ⟨rfl, rfl, _⟩
    · rw [hold' id' p hlt] at hu'
      obtain ⟨e1, ob0, e2, e3⟩ := hh.sep id' p _ o' u hx2 hu'
      refine ⟨e1, ob0, ?_, e3⟩
      rw [List.getElem?_append_left (by rw [hkl]; exact hlt), killB_get, e2]
      simp [Ne.symm hne']
    · rw [hnew] at hu'
      obtain ⟨_, ob0, e2, e3⟩ := hh.sep id [] _ o' u hgb hu'
      rw [hob] at e2
      cases e2
      exact ⟨rfl, ⟨2, ob.ty, ob.sz, rows, ob.fz⟩, by rw [← hkl]; simp, e3⟩
  · intro id' ob' hob' hk'
    rcases hget id' ob' hob' with ⟨hlt, ob0, h1, ⟨_, h2⟩ | ⟨hne', h2⟩⟩ | ⟨rfl, h2⟩
    · subst h2; simp at hk'
    · subst h2
      obtain ⟨cur0, hc0⟩ := hh.ty id' _ h1 hk'
      rw [hold' id' [] hlt]
      by_cases hbb : E.β id' [] = E.β id []
      · rw [hbb] at hc0 ⊢
        rw [hg] at hc0
        injection hc0 with hc0
        injection hc0 with h7 h8
        exact ⟨cur', by rw [← h8]; exact setRow_heap w _ cur cur' _ _ hg⟩
      · exact ⟨cur0, by rw [setRow_other w _ _ _ hbb]; exact hc0⟩
    · subst h2
      exact ⟨cur', by rw [hnew]; exact setRow_heap w _ cur cur' _ _ hg⟩
  · intro id' ob' hob'
    rcases hget id' ob' hob' with ⟨hlt, ob0, h1, ⟨_, h2⟩ | ⟨_, h2⟩⟩ | ⟨rfl, h2⟩
    · subst h2; exact hh.fz id' ob0 h1
    · subst h2; exact hh.fz id' _ h1
    · subst h2; exact hfz
  · intro k hk ho
    exact setRow_other w _ _ _ (fun e' => ho ⟨id, [], _, hgb, e'.symm⟩)
  · rintro b ⟨id', p, x, hx', rfl⟩
    right
    rcases get id' p _ hx' with ⟨hlt, _, hx2⟩ | ⟨rfl, rfl, _⟩
    · exact ⟨id', p, x, hx2, by rw [hold' id' p hlt]⟩
    · exact ⟨id, [], _, hgb, by rw [hnew]⟩

section
variable {P : Program} {o : Oper} {ρ : Operand → C} {H : Heap}

/-- What an append takes, told of its type. -/
structure AppT (P : Program) (cl : Call) (x y : Operand) (e : TypeId) (i : TypeInfo) (z : Value) : Prop where
  callee : cl.callee = .builtin .append
  args : cl.args = #[x, y]
  ty : ∃ t, cl.argTypes = #[t, t] ∧ P.underlying t = some (.slice e)
  info : P.info? e = some i
  zero : i.zero = some z
  zsize : z.cells.size = i.size

theorem exec_append {cl : Call} (ho : o.op = .call cl) {x y : Operand} {e : TypeId} {i : TypeInfo} {z : Value} (ht : AppT P cl x y e i z) (σ : Operand → Value) (w : World) :
    ∃ t, P.underlying t = some (.slice e) ∧ ∀ v w', (Builtin.append_ #[t, t] o.type #[σ x, σ y]).run P w = .ok v w' → (execOp σ o).run P w = .ok (.value v) w' := by
  obtain ⟨t, h1, h2⟩ := ht.ty
  refine ⟨t, h2, fun v w' hr => ?_⟩
  unfold execOp
  simp [ho, resolve, ht.callee, ht.args, h1, invoke, builtin, hr]

/-- Nothing is appended. -/
theorem OpV0.appendNone (cl : Call) (ho : o.op = .call cl) (x y : Operand) {e : TypeId} {i : TypeInfo} {z : Value} (ht : AppT P cl x y e i z) {sz sz' : Nat} {rows : List (List C)} (hx : rowsC H (ρ x) = some (sz, rows))
    (hy : rowsC H (ρ y) = some (sz', [])) : OpV0 P o ρ H (ρ x) H := fun w E σ hh hl K hk => by
  have h0 := hl x (by simp [ho, Op.operands, Call.operands, ht.callee, ht.args])
  have h1 := hl y (by simp [ho, Op.operands, Call.operands, ht.callee, ht.args])
  obtain ⟨t, hu, hexec⟩ := exec_append ho ht σ w
  have hyv : ∃ a cap, σ y = .slice a 0 cap := by
    rcases rowsC_mem hh h1 hy with ⟨_, e1⟩ | ⟨a, cap, vals, e1, _⟩
    · exact ⟨none, 0, e1⟩
    · exact ⟨some a, cap, e1⟩
  obtain ⟨a, cap, hyv⟩ := hyv
  have hr : (Builtin.append_ #[t, t] o.type #[σ x, σ y]).run P w = .ok (σ x) w := by
    rcases rowsC_mem hh h0 hx with ⟨_, e1⟩ | ⟨a', cap', vals, e1, hcap, _⟩
    · cases a <;> simp [Builtin.append_, run_underlying hu, sizeOf, typeInfo, ht.info, Builtin.lenOf, hyv, e1, Builtin.firstCells, loadCells, loadCellsFrom]
    · cases a <;> simp [Builtin.append_, run_underlying hu, sizeOf, typeInfo, ht.info, Builtin.lenOf, hyv, e1, hcap, Builtin.firstCells, loadCells, loadCellsFrom, storeCells]
  rw [hexec _ _ hr]
  exact hk _ w E hh h0 (Grow0.refl w E H)

/-- An append that finds no room: a list by value that is full. -/
theorem OpV0.appendFull (cl : Call) (ho : o.op = .call cl) (x y : Operand) {e : TypeId} {i : TypeInfo} {z : Value} (ht : AppT P cl x y e i z) {sz : Nat} {rows : List (List C)} (hx : ρ x = .lst 1 sz rows) (hsz : rows = [] ∨ sz = i.size)
    {rows' : List (List C)} (hy : rowsC H (ρ y) = some (i.size, rows')) (hne : rows' ≠ []) (hm : rows.length + rows'.length ≤ maxLen) (hb : (rows.length + rows'.length) * i.bytes ≤ 140737488355328) :
    OpV0 P o ρ H (.sl H.length [] i.size 0 (rows.length + rows'.length) false) (H ++ [⟨2, e, i.size, rows ++ rows', 0⟩]) := fun w E σ hh hl K hk => by
  have h0 := hl x (by simp [ho, Op.operands, Call.operands, ht.callee, ht.args])
  have h1 := hl y (by simp [ho, Op.operands, Call.operands, ht.callee, ht.args])
  obtain ⟨t, hu, hexec⟩ := exec_append ho ht σ w
  have hpos : 0 < rows'.length := List.length_pos_iff.2 hne
  have hsmall : rows.length + rows'.length ≤ 9223372036854775807 := by simp only [maxLen] at hm; omega
  rcases rowsC_mem hh h1 hy with ⟨e1, _⟩ | ⟨a, cap, vals, e1, _, hrows, hmem⟩
  · exact absurd e1 hne
  -- the elder part
  have hold : ∃ olds, RowsL E i.size rows olds ∧ ((rows = [] ∧ σ x = .slice none 0 0) ∨ ∃ b, σ x = .slice (some b) rows.length rows.length ∧ ∀ (j : Nat) u, olds[j]? = some u → w.cell? (b.add j) = some u) := by
    rw [hx] at h0
    have hrx : rowsC H (.lst 1 sz rows) = some (sz, rows) := by simp [rowsC]
    rcases rowsC_mem hh h0 hrx with ⟨e2, e3⟩ | ⟨b, cap', olds, e3, hcap', hro, hmo⟩
    · subst e2
      exact ⟨[], ⟨by simp, by simp, by simp [cellAt], by simp⟩, .inl ⟨rfl, e3⟩⟩
    · have hfull : cap' = rows.length := by
        rw [e3] at h0
        cases h0 with
        | lst o sz rows b off cap us ho hc hsz' hst hL => rcases ho with h | ⟨_, h⟩; cases h; exact h
        | lnil o sz ho a => rfl
      rw [hfull] at e3
      rcases hsz with rfl | rfl
      · exact ⟨[], ⟨by simp, by simp, by simp [cellAt], by simp⟩, .inr ⟨b, e3, by simp⟩⟩
      · exact ⟨olds, hro, .inr ⟨b, e3, hmo⟩⟩
  obtain ⟨olds, hro, hcase⟩ := hold
  have hall := hro.append hrows
  have hz := ht.zsize
  have fin : ∀ (v : Value) (cap' : Nat) (w' : World), rows.length + rows'.length ≤ cap' → w' = w.drew.alloc (.cells ((olds ++ vals).toArray ++ Builtin.zeroCells z.cells (cap' - (rows.length + rows'.length))) e) →
      v = .slice (some ⟨w.heap.size, 0, none⟩) (rows.length + rows'.length) cap' → (Builtin.append_ #[t, t] o.type #[σ x, σ y]).run P w = .ok v w' → upV P K ((execOp σ o).run P w) := by
    intro v cap' w' hcap' hw hv hr
    rw [hexec _ _ hr]
    have hsize : ((olds ++ vals).toArray ++ Builtin.zeroCells z.cells (cap' - (rows.length + rows'.length))).size = cap' * i.size := by
      have h2 : (olds ++ vals).length = (rows.length + rows'.length) * i.size := by rw [hall.len, List.length_append]
      simp only [Array.size_append, List.size_toArray, size_zeroCells, hz]
      rw [h2, ← Nat.add_mul]
      congr 1
      omega
    have := hh.drew.pushArr e (κ := cap') (hall) (cur := (olds ++ vals).toArray ++ Builtin.zeroCells z.cells (cap' - (rows.length + rows'.length))) (by simpa using hcap') hsize (by rw [Array.toList_append]; exact List.take_left)
    subst hw
    subst hv
    refine hk _ _ _ this.1 ?_ ((Grow0.drew w E H).trans this.2)
    exact L_arr hh.n _ _ _ _ false cap' hcap' (by simp) (fun _ => rfl)
  rcases hcase with ⟨rfl, e3⟩ | ⟨b, e3, hmo⟩
  · have holds0 : olds = [] := List.eq_nil_of_length_eq_zero (by simpa using hro.len)
    subst holds0
    have hr := run_append_nil (P := P) w t o.type e i z hu ht.info ht.zero a rows'.length cap vals hrows.len hmem hpos (by simp at hsmall; omega) (by simp at hb; omega)
    rw [← e3, ← e1] at hr
    refine fin _ (grownCap w rows'.length 0 e) _ ?_ ?_ ?_ hr
    · simpa using grownCap_ge w rows'.length 0 e
    · simp
    · simp
  · have hr := run_append_grow (P := P) w t o.type e i z hu ht.info ht.zero b rows.length rows.length olds hro.len hmo a rows'.length cap vals hrows.len hmem (by omega) (by omega) (growslice_fits (by omega) hb)
    rw [← e3, ← e1] at hr
    refine fin _ (grownCap w (rows.length + rows'.length) rows.length e) _ ?_ ?_ rfl hr
    · exact grownCap_ge w _ _ e
    · simp

/-- An append to an array object, whole: in place or anew. -/
theorem OpV0.appendArr (cl : Call) (ho : o.op = .call cl) (x y : Operand) {e : TypeId} {i : TypeInfo} {z : Value} (ht : AppT P cl x y e i z) {id n : Nat} (hx : ρ x = .sl id [] i.size 0 n false) {ob : Ob} (hob : H[id]? = some ob)
    (hkd : ob.kind = 2) (hty : ob.ty = e) (hsz : ob.sz = i.size) (hn : ob.rows.length = n) (hno : ob.rows.all (·.all noOwn) = true)
    {rows' : List (List C)} (hy : rowsC H (ρ y) = some (i.size, rows')) (hne : rows' ≠ []) (hm : n + rows'.length ≤ maxLen) (hb : (n + rows'.length) * i.bytes ≤ 140737488355328) :
    OpV0 P o ρ H (.sl H.length [] i.size 0 (n + rows'.length) false) (killB H id ++ [⟨2, e, i.size, ob.rows ++ rows', ob.fz⟩]) := fun w E σ hh hl K hk => by
  subst hn
  have h0 := hl x (by simp [ho, Op.operands, Call.operands, ht.callee, ht.args])
  have h1 := hl y (by simp [ho, Op.operands, Call.operands, ht.callee, ht.args])
  obtain ⟨t, hu, hexec⟩ := exec_append ho ht σ w
  have hpos : 0 < rows'.length := List.length_pos_iff.2 hne
  have hsmall : ob.rows.length + rows'.length ≤ 9223372036854775807 := by simp only [maxLen] at hm; omega
  have hgb : getB H id [] = some (i.size, ob.rows) := by unfold getB; rw [hob]; simp [hkd, getT_nil, hsz]
  rcases rowsC_mem hh h1 hy with ⟨e1, _⟩ | ⟨a, cap, vals, e1, _, hrows, hmem⟩
  · exact absurd e1 hne
  have hrx : rowsC H (ρ x) = some (i.size, ob.rows) := by
    rw [hx]
    simp only [rowsC, hob, hgb]
    rw [if_pos]
    · simp
    · simp only [Bool.and_eq_true, beq_iff_eq, decide_eq_true_eq]
      refine ⟨⟨⟨trivial, hkd⟩, by omega⟩, by simpa using hno⟩
  have hB := hh.blk id ob [] _ _ hob hgb
  obtain ⟨cur, e', hg, hcs, hcell⟩ := hB.blk
  obtain ⟨cur2, hg2⟩ := hh.ty id ob hob hkd
  rw [hg] at hg2
  cases hg2
  rw [hty] at hg
  have hxv : σ x = .slice (some ⟨E.β id [], 0, none⟩) ob.rows.length (E.κ id []) := by
    rw [hx] at h0
    generalize σ x = u at *
    cases h0 with
    | sl id hops sz lo len full cap hn hlen hf hf' =>
      have := hf' rfl
      simp at this
      subst this
      simp
  rcases rowsC_mem hh h0 hrx with ⟨_, e3⟩ | ⟨b, cap', olds, e3, hcap', hro, hmo⟩
  · rw [hxv] at e3; cases e3
  rw [hxv] at e3
  cases e3
  have hall := hro.append hrows
  have hz := ht.zsize
  have holds : cur.toList.take olds.length = olds := by
    apply List.ext_getElem?
    intro j
    rw [List.getElem?_take]
    split
    · rename_i hj
      have h3 := hmo j olds[j] (by simp [hj])
      rw [addr_add] at h3
      unfold World.cell? at h3
      rw [hg] at h3
      simp at h3
      simp [hj, h3]
    · rename_i hj
      rw [List.getElem?_eq_none (by omega)]
  by_cases hroom : ob.rows.length + rows'.length ≤ E.κ id []
  · -- in place
    have hfit : ob.rows.length * i.size + vals.length ≤ cur.size := by rw [hrows.len, hcs, ← Nat.add_mul]; exact Nat.mul_le_mul_right _ hroom
    have hr := run_append_room (P := P) w t o.type e i hu ht.info (E.β id []) ob.rows.length (E.κ id []) cur hg a rows'.length cap vals hrows.len hmem hrows.one hroom hfit
    rw [← hxv, ← e1] at hr
    rw [hexec _ _ hr]
    obtain ⟨cur', hcur'⟩ : ∃ cur', cur' = (cur.toList.take (ob.rows.length * i.size) ++ vals ++ cur.toList.drop (ob.rows.length * i.size + vals.length)).toArray := ⟨_, rfl⟩
    rw [← hcur']
    have hlo : ob.rows.length * i.size = olds.length := hro.len.symm
    have htake : cur'.toList.take (olds ++ vals).length = olds ++ vals := by
      rw [hcur', hlo, holds]
      exact List.take_left
    have hsize : cur'.size = E.κ id [] * ob.sz := by rw [hsz, ← hcs, hcur']; simp; omega
    have hA := hh.again hob hkd (rows := ob.rows ++ rows') (vals := olds ++ vals) (by rw [hsz]; exact hall) (cur := cur) (cur' := cur') (by rw [hty]; exact hg) hsize (by simpa using hroom) htake (by have := hh.fz id ob hob; simp; omega) ?_
    · rw [hsz, hty] at hA
      refine hk _ _ _ hA.1 ?_ hA.2
      have := L.sl (E := E.again id) H.length [] i.size 0 (ob.rows.length + rows'.length) false (E.κ id []) (by simp [Env.again, hh.n]) hroom (by simp) (fun _ => by simp [Env.again, hh.n])
      have hb' : (E.again id).β H.length [] = E.β id [] := by simp [Env.again, hh.n]
      rw [hb', Nat.zero_mul] at this
      exact this
    · intro o' u hu'
      obtain ⟨_, ob', e2, e3'⟩ := hh.sep id [] _ o' u hgb hu'
      rw [hob] at e2
      cases e2
      have hst := (hh.stable _ _ _ hu').1
      unfold World.cell? at hst
      rw [hg] at hst
      simp at hst
      have h7 : o' < ob.rows.length * i.size := by
        rw [hsz] at e3'
        exact Nat.lt_of_lt_of_le e3' (Nat.mul_le_mul_right _ (hh.fz id ob hob))
      rw [hcur']
      simp only [List.getElem?_toArray]
      rw [List.append_assoc, List.getElem?_append_left (by simp; omega), List.getElem?_take, if_pos h7, Array.getElem?_toList]
      exact hst
  · -- anew
    have hr := run_append_grow (P := P) w t o.type e i z hu ht.info ht.zero ⟨E.β id [], 0, none⟩ ob.rows.length (E.κ id []) olds hro.len hmo a rows'.length cap vals hrows.len hmem (by omega) (by omega) (growslice_fits (by omega) hb)
    rw [← hxv, ← e1] at hr
    rw [hexec _ _ hr]
    obtain ⟨cap', hcap2⟩ : ∃ cap', cap' = grownCap w (ob.rows.length + rows'.length) (E.κ id []) e := ⟨_, rfl⟩
    have hge : ob.rows.length + rows'.length ≤ cap' := by rw [hcap2]; exact grownCap_ge w _ _ e
    rw [← hcap2]
    have hsize : ((olds ++ vals).toArray ++ Builtin.zeroCells z.cells (cap' - (ob.rows.length + rows'.length))).size = cap' * i.size := by
      have h2 : (olds ++ vals).length = (ob.rows.length + rows'.length) * i.size := by rw [hall.len, List.length_append]
      simp only [Array.size_append, List.size_toArray, size_zeroCells, hz]
      rw [h2, ← Nat.add_mul]
      congr 1
      omega
    have hk1 := hh.drew.kill id
    have hB2 := hk1.pushArrF e (κ := cap') hall (cur := (olds ++ vals).toArray ++ Builtin.zeroCells z.cells (cap' - (ob.rows.length + rows'.length))) (by simpa using hge) hsize (by rw [Array.toList_append]; exact List.take_left) ob.fz (by have := hh.fz id ob hob; simp; omega)
    have hkl : (killB H id).length = H.length := by simp [killB]
    have hval : (olds.toArray ++ vals.toArray ++ Builtin.zeroCells z.cells (cap' - (ob.rows.length + rows'.length))) = ((olds ++ vals).toArray ++ Builtin.zeroCells z.cells (cap' - (ob.rows.length + rows'.length))) := by simp
    rw [hval]
    refine hk _ _ _ hB2.1 ?_ ((Grow0.drew w E H).trans ((Grow0.kill w.drew E H id).trans hB2.2))
    have := L_arr (E := E) (H := killB H id) hk1.n w.heap.size cap' i.size (ob.rows.length + rows'.length) false cap' hge (by simp) (fun _ => rfl)
    rw [hkl] at this
    exact this

end
end Go.Ab
