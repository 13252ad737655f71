/- Slices made, cut and appended to, over an abstract state. -/
import Derived.Test.YtbndjpkncgfpiaaAb8
namespace Go.Ab
set_option linter.unusedVariables false

section
variable {P : Program} {o : Oper} {ρ : Operand → C} {H : Heap}

/-! ### What a list's elements are in memory -/

/-- The rows of a list that may be copied. -/
def rowsC (H : Heap) : C → Option (Nat × List (List C))
  | .lst o sz rows => if o == 0 || o == 1 then some (sz, rows) else none
  | .sl id hops sz lo len _ => match H[id]?, getB H id hops with
    | some ob, some (sz', rows) => if (sz' == sz) && (ob.kind == 2) && decide (lo + len ≤ rows.length) && ((rows.drop lo).take len).all (·.all noOwn) then some (sz, (rows.drop lo).take len) else none
    | _, _ => none
  | _ => none

/-- Values that stand for rows, one cell behind the other. -/
structure RowsL (E : Env) (sz : Nat) (rows : List (List C)) (vals : List Value) : Prop where
  len : vals.length = rows.length * sz
  row : ∀ r ∈ rows, r.length = sz
  cell : ∀ i k c, cellAt rows i k = some c → ∃ u, vals[i * sz + k]? = some u ∧ L E.shut c u
  one : ∀ u ∈ vals, u.oneCell' = true

theorem cellAt_lt {rows : List (List C)} {sz : Nat} (hrow : ∀ r ∈ rows, r.length = sz) {i k : Nat} {c : C} (h : cellAt rows i k = some c) : i < rows.length ∧ k < sz := by
  unfold cellAt at h
  cases hx : rows[i]? with
  | none => rw [hx] at h; cases h
  | some r =>
    rw [hx] at h
    refine ⟨(List.getElem?_eq_some_iff.1 hx).1, ?_⟩
    rw [← hrow r (List.mem_of_getElem? hx)]
    exact (List.getElem?_eq_some_iff.1 h).1

theorem cellAt_some {rows : List (List C)} {sz : Nat} (hrow : ∀ r ∈ rows, r.length = sz) {i k : Nat} (hi : i < rows.length) (hk : k < sz) : ∃ c, cellAt rows i k = some c := by
  have hr : rows[i]? = some rows[i] := by simp [hi]
  have hl := hrow _ (List.mem_of_getElem? hr)
  exact ⟨rows[i][k]'(by omega), by simp only [cellAt, hr, Option.bind_some]; exact List.getElem?_eq_getElem (by omega)⟩

theorem index_split {sz n j : Nat} (h : j < n * sz) : j / sz < n ∧ j % sz < sz ∧ j / sz * sz + j % sz = j := by
  have hsz : 0 < sz := by rcases Nat.eq_zero_or_pos sz with rfl | h' <;> simp_all
  refine ⟨Nat.div_lt_of_lt_mul (by rw [Nat.mul_comm]; exact h), Nat.mod_lt _ hsz, ?_⟩
  rw [Nat.mul_comm]
  exact Nat.div_add_mod j sz

theorem RowsL.shutMono {E E' : Env} (h : E.le E') {sz : Nat} {rows : List (List C)} {vals : List Value} (hr : RowsL E sz rows vals) : RowsL E' sz rows vals :=
  ⟨hr.len, hr.row, fun i k c hc => let ⟨u, h1, h2⟩ := hr.cell i k c hc; ⟨u, h1, h2.mono h.shut⟩, hr.one⟩

theorem RowsL.append {E : Env} {sz : Nat} {rows rows' : List (List C)} {vals vals' : List Value} (h : RowsL E sz rows vals) (h' : RowsL E sz rows' vals') : RowsL E sz (rows ++ rows') (vals ++ vals') where
  len := by rw [List.length_append, List.length_append, h.len, h'.len, Nat.add_mul]
  row r hr := by rcases List.mem_append.1 hr with hr | hr; exact h.row r hr; exact h'.row r hr
  cell i k c hc := by
    by_cases hi : i < rows.length
    · have hc' : cellAt rows i k = some c := by unfold cellAt at hc ⊢; rw [List.getElem?_append_left hi] at hc; exact hc
      obtain ⟨u, hu, hl⟩ := h.cell i k c hc'
      exact ⟨u, by rw [List.getElem?_append_left ((List.getElem?_eq_some_iff.1 hu).1)]; exact hu, hl⟩
    · have hc' : cellAt rows' (i - rows.length) k = some c := by unfold cellAt at hc ⊢; rw [List.getElem?_append_right (by omega)] at hc; exact hc
      obtain ⟨u, hu, hl⟩ := h'.cell _ k c hc'
      refine ⟨u, ?_, hl⟩
      have hge : rows.length * sz ≤ i * sz := Nat.mul_le_mul_right _ (by omega)
      rw [List.getElem?_append_right (by rw [h.len]; omega), h.len]
      have : i * sz + k - rows.length * sz = (i - rows.length) * sz + k := by rw [Nat.sub_mul]; omega
      rw [this]
      exact hu
  one u hu := by rcases List.mem_append.1 hu with hu | hu; exact h.one u hu; exact h'.one u hu

/-- **A list's elements lie in memory.** -/
theorem rowsC_mem {w : World} {E : Env} (h : HRel0 w E H) {c : C} {y : Value} (hl : L E c y) {sz : Nat} {rows : List (List C)} (hr : rowsC H c = some (sz, rows)) :
    (rows = [] ∧ y = .slice none 0 0) ∨ ∃ a cap vals, y = .slice (some a) rows.length cap ∧ rows.length ≤ cap ∧ RowsL E sz rows vals ∧ (∀ (j : Nat) u, vals[j]? = some u → w.cell? (a.add j) = some u) := by
  cases hl with
  | lnil o sz' ho a =>
    simp only [rowsC] at hr
    split at hr
    · cases hr
      cases a with
      | none => exact .inl ⟨rfl, rfl⟩
      | some a => exact .inr ⟨a, 0, [], rfl, Nat.le_refl _, ⟨by simp, by simp, by simp [cellAt], by simp⟩, by simp⟩
    · cases hr
  | lst o sz' rows' b off cap us ho hc hsz hst hL =>
    simp only [rowsC] at hr
    split at hr
    · cases hr
      right
      have key : ∀ j, j < rows.length * sz → ∃ c, cellAt rows (j / sz) (j % sz) = some c ∧ E.St b (off + j) = some (us (j / sz) (j % sz)) := by
        intro j hj
        obtain ⟨h1, h2, h3⟩ := index_split hj
        obtain ⟨c, hcc⟩ := cellAt_some hsz h1 h2
        refine ⟨c, hcc, ?_⟩
        have hr0 : rows[j / sz]? = some rows[j / sz] := by simp [h1]
        have := hst (j / sz) _ (j % sz) c hr0 (by unfold cellAt at hcc; rw [hr0] at hcc; exact hcc)
        rw [Nat.add_assoc, h3] at this
        exact this
      refine ⟨_, cap, (List.range (rows.length * sz)).map (fun j => us (j / sz) (j % sz)), rfl, hc, ⟨by simp, hsz, ?_, ?_⟩, ?_⟩
      · intro i k c hcc
        obtain ⟨h1, h2⟩ := cellAt_lt hsz hcc
        have hr0 : rows[i]? = some rows[i] := by simp [h1]
        have hlt : i * sz + k < rows.length * sz := by
          have : (i + 1) * sz ≤ rows.length * sz := Nat.mul_le_mul_right _ h1
          rw [Nat.add_mul] at this
          omega
        have e1 : (i * sz + k) / sz = i := by rw [Nat.mul_comm, Nat.mul_add_div (by omega), Nat.div_eq_of_lt h2]; rfl
        have e2 : (i * sz + k) % sz = k := by rw [Nat.mul_comm, Nat.mul_add_mod, Nat.mod_eq_of_lt h2]
        refine ⟨us i k, by simp [hlt, e1, e2], hL i _ k c hr0 (by unfold cellAt at hcc; rw [hr0] at hcc; exact hcc)⟩
      · intro u hu
        obtain ⟨j, hj, rfl⟩ := List.mem_map.1 hu
        obtain ⟨c, _, hs⟩ := key j (by simpa using hj)
        exact (h.stable _ _ _ hs).2
      · intro j u hj
        rw [List.getElem?_map] at hj
        cases hjr : (List.range (rows.length * sz))[j]? with
        | none => rw [hjr] at hj; cases hj
        | some j' =>
          rw [hjr] at hj
          obtain ⟨hjlt, hj'⟩ := List.getElem?_eq_some_iff.1 hjr
          simp at hj' hjlt
          subst hj'
          cases hj
          obtain ⟨c, _, hs⟩ := key j hjlt
          rw [addr_add]
          exact (h.stable _ _ _ hs).1
    · cases hr
  | sl id hops sz' lo len full cap hn hlen hf hf' =>
    simp only [rowsC] at hr
    split at hr
    rotate_left
    · cases hr
    rename_i ob sz2 rows2 hob hb
    split at hr
    rotate_left
    · cases hr
    rename_i hcond
    simp only [Bool.and_eq_true, beq_iff_eq, decide_eq_true_eq, List.all_eq_true] at hcond
    obtain ⟨⟨⟨rfl, hkd⟩, hfit⟩, hno⟩ := hcond
    cases hr
    right
    have hB := h.blk id ob hops _ rows2 hob hb
    obtain ⟨cur, e, hg, hcs, hcell⟩ := hB.blk
    have hrl : ((rows2.drop lo).take len).length = len := by simp; omega
    have hsub : ∀ i k, cellAt ((rows2.drop lo).take len) i k = if i < len then cellAt rows2 (lo + i) k else none := by
      intro i k
      unfold cellAt
      rw [List.getElem?_take]
      split
      · rw [List.getElem?_drop]
      · rfl
    have hrow : ∀ r ∈ (rows2.drop lo).take len, r.length = sz := fun r hr => hB.row r (List.mem_of_mem_drop (List.mem_of_mem_take hr))
    have key : ∀ j, j < len * sz → ∃ c u, cellAt ((rows2.drop lo).take len) (j / sz) (j % sz) = some c ∧ cur[lo * sz + j]? = some u ∧ L E.shut c u ∧ u.oneCell' = true := by
      intro j hj
      obtain ⟨h1, h2, h3⟩ := index_split hj
      obtain ⟨c, hcc⟩ := cellAt_some hrow (by rw [hrl]; exact h1) h2
      have hcc2 := hcc
      rw [hsub, if_pos h1] at hcc2
      obtain ⟨u, hu, ho⟩ := hcell _ _ c hcc2
      have hnc : noOwn c = true := by
        unfold cellAt at hcc
        cases hx : ((rows2.drop lo).take len)[j / sz]? with
        | none => rw [hx] at hcc; cases hcc
        | some r =>
          rw [hx] at hcc
          exact hno r (List.mem_of_getElem? hx) c (List.mem_of_getElem? hcc)
      rw [CellOK.loose hnc] at ho
      refine ⟨c, u, hcc, ?_, by simpa [Env.at, hkd] using ho.1, ho.2⟩
      have : (lo + j / sz) * sz + j % sz = lo * sz + j := by rw [Nat.add_mul]; omega
      rw [← this]
      exact hu
    have hlen2 : len = ((rows2.drop lo).take len).length := hrl.symm
    refine ⟨_, cap, (List.range (len * sz)).map (fun j => cur.getD (lo * sz + j) undef), by rw [← hlen2], by rw [← hlen2]; exact hlen, ⟨by simp [hrl], hrow, ?_, ?_⟩, ?_⟩
    · intro i k c hcc
      obtain ⟨h1, h2⟩ := cellAt_lt hrow hcc
      rw [hrl] at h1
      have hlt : i * sz + k < len * sz := by
        have : (i + 1) * sz ≤ len * sz := Nat.mul_le_mul_right _ h1
        rw [Nat.add_mul] at this
        omega
      obtain ⟨c', u, h3, h4, h5, _⟩ := key _ hlt
      have e1 : (i * sz + k) / sz = i := by rw [Nat.mul_comm, Nat.mul_add_div (by omega), Nat.div_eq_of_lt h2]; rfl
      have e2 : (i * sz + k) % sz = k := by rw [Nat.mul_comm, Nat.mul_add_mod, Nat.mod_eq_of_lt h2]
      rw [e1, e2, hcc] at h3
      cases h3
      refine ⟨u, ?_, h5⟩
      simp only [List.getElem?_map, List.getElem?_range hlt, Option.map_some, Array.getD_eq_getD_getElem?, h4, Option.getD_some]
    · intro u hu
      obtain ⟨j, hj, rfl⟩ := List.mem_map.1 hu
      obtain ⟨c, u, _, h4, _, h6⟩ := key j (by simpa using hj)
      simpa [Array.getD_eq_getD_getElem?, h4] using h6
    · intro j u hj
      rw [List.getElem?_map] at hj
      cases hjr : (List.range (len * sz))[j]? with
      | none => rw [hjr] at hj; cases hj
      | some j' =>
        rw [hjr] at hj
        obtain ⟨hjlt, hj'⟩ := List.getElem?_eq_some_iff.1 hjr
        simp at hj' hjlt
        subst hj'
        obtain ⟨c, u', _, h4, _, _⟩ := key j hjlt
        simp only [Option.map_some, Array.getD_eq_getD_getElem?, h4, Option.getD_some, Option.some.injEq] at hj
        subst hj
        rw [addr_add]
        unfold World.cell?
        rw [hg]
        simpa using h4
  | _ => simp [rowsC] at hr

end
end Go.Ab
