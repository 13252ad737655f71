/- Loads and stores over an abstract state. -/
import Derived.Test.YtbndjpkncgfpiaaAb4
namespace Go.Ab
set_option linter.unusedVariables false

/-- A cell of an object, as it is read: an owned list is seen where it stands. -/
def viewC (id : Nat) (hops : List Hop) (i k : Nat) : C → C
  | .lst 2 sz rows => .sl id (hops ++ [(i, k)]) sz 0 rows.length false
  | c => c

def viewRow (id : Nat) (hops : List Hop) (i : Nat) : Nat → List C → List C
  | _, [] => []
  | k, c :: cs => viewC id hops i k c :: viewRow id hops i (k + 1) cs

theorem getT_nil (sz : Nat) (rows : List (List C)) : getT sz rows [] = some (sz, rows) := rfl
theorem getT_cons (sz : Nat) (rows : List (List C)) (i k : Nat) (hs : List Hop) : getT sz rows ((i, k) :: hs) = match cellAt rows i k with
    | some (.lst 2 sz' rows') => getT sz' rows' hs
    | _ => none := rfl

theorem getT_snoc {i k sz2 : Nat} {rows2 : List (List C)} : ∀ (hops : List Hop) (sz : Nat) (rows : List (List C)) (sz' : Nat) (rows' : List (List C)), getT sz rows hops = some (sz', rows') →
    cellAt rows' i k = some (.lst 2 sz2 rows2) → getT sz rows (hops ++ [(i, k)]) = some (sz2, rows2)
  | [], sz, rows, sz', rows', h, hc => by
    rw [getT_nil] at h
    cases h
    rw [List.nil_append, getT_cons, hc]
    rfl
  | (i', k') :: tl, sz, rows, sz', rows', h, hc => by
    rw [getT_cons] at h
    rw [List.cons_append, getT_cons]
    split at h
    · exact getT_snoc tl _ _ _ _ h hc
    · cases h

theorem getB_snoc {H : Heap} {id : Nat} {hops : List Hop} {sz' : Nat} {rows' : List (List C)} (h : getB H id hops = some (sz', rows')) {i k : Nat} {sz2 : Nat} {rows2 : List (List C)}
    (hc : cellAt rows' i k = some (.lst 2 sz2 rows2)) : getB H id (hops ++ [(i, k)]) = some (sz2, rows2) := by
  obtain ⟨ob, ho, hk, hg⟩ := getB_ob h
  unfold getB
  rw [ho]
  simp only [hk, if_true]
  exact getT_snoc _ _ _ _ _ hg hc

theorem view_L {w : World} {E : Env} {H : Heap} (h : HRel0 w E H) {id : Nat} {hops : List Hop} {sz : Nat} {rows : List (List C)} (hb : getB H id hops = some (sz, rows)) {kd i k : Nat} {c : C} {u : Value}
    (hc : cellAt rows i k = some c) (ho : CellOK E kd id hops i k c u) : L E (viewC id hops i k c) u := by
  unfold CellOK at ho
  split at ho
  · rename_i sz' rows'
    subst ho
    have hb' := getB_snoc hb hc
    obtain ⟨ob, hob, _, _⟩ := getB_ob hb'
    have hlen := (h.blk id ob _ _ _ hob hb').len
    have := L.sl (E := E) id (hops ++ [(i, k)]) sz' 0 rows'.length false _ (by rw [h.n]; exact getB_lt hb') hlen (by simp) (by intro _; rw [Nat.zero_add])
    rw [Nat.zero_mul] at this
    exact this
  · rename_i h2
    have : viewC id hops i k c = c := by
      unfold viewC
      split
      · exact absurd rfl (h2 _ _)
      · rfl
    rw [this]
    exact ho.1.mono (E.at_le kd)

theorem viewRow_get {id : Nat} {hops : List Hop} {i : Nat} : ∀ (cs : List C) (k j : Nat) (c' : C), (viewRow id hops i k cs)[j]? = some c' → ∃ c, cs[j]? = some c ∧ c' = viewC id hops i (k + j) c
  | [], k, j, c', h => by simp [viewRow] at h
  | c :: cs, k, 0, c', h => by simp [viewRow] at h; exact ⟨c, rfl, h.symm⟩
  | c :: cs, k, j + 1, c', h => by
    simp [viewRow] at h
    obtain ⟨c0, h0, e⟩ := viewRow_get cs (k + 1) j c' h
    exact ⟨c0, by simpa using h0, by rw [e]; congr 1; omega⟩

theorem viewRow_length {id : Nat} {hops : List Hop} {i : Nat} : ∀ (cs : List C) (k : Nat), (viewRow id hops i k cs).length = cs.length
  | [], _ => rfl
  | c :: cs, k => by simp [viewRow, viewRow_length cs (k + 1)]

/-- So many cells from an address on. -/
def readC (H : Heap) (c : C) (n : Nat) : Option (List C) :=
  match c with
  | .ref id hops sz i k => match getB H id hops with
    | some (sz', rows) => if sz' == sz then match rows[i]? with
        | some r => if decide (k + n ≤ r.length) then some (viewRow id hops i k ((r.drop k).take n)) else none
        | none => none
      else none
    | none => none
  | .sref cells => if decide (n ≤ cells.length) then some (cells.take n) else none
  | _ => none

/-- What lies in memory from an address on stands there, one cell by one. -/
theorem readC_L {w : World} {E : Env} {H : Heap} (h : HRel0 w E H) {c : C} {y : Value} (hl : L E c y) {n : Nat} {cs : List C} (hr : readC H c n = some cs) :
    ∃ a us, y = .pointer (some a) ∧ (∀ (j : Nat) u, us[j]? = some u → w.cell? (a.add j) = some u) ∧ LL E cs us ∧ us.length = n ∧ (∀ u ∈ us, u.oneCell' = true) := by
  cases hl with
  | ref id hops sz i k hn =>
    simp only [readC] at hr
    split at hr
    · rename_i sz' rows hb
      split at hr
      · rename_i hsz
      -- the row
        have hsz : sz' = sz := by simpa using hsz
        subst hsz
        split at hr
        · rename_i r hrow
          split at hr
          · rename_i hlen
            simp only [decide_eq_true_eq] at hlen
            cases hr
            obtain ⟨ob, hob, _, _⟩ := getB_ob hb
            have hB := h.blk id ob hops sz' rows hob hb
            obtain ⟨cur, e, hg, hcs, hcell⟩ := hB.blk
            have hrl : r.length = sz' := hB.row r (List.mem_of_getElem? hrow)
            have hcc : ∀ j, j < n → ∃ c u, r[k + j]? = some c ∧ cellAt rows i (k + j) = some c ∧ cur[i * sz' + (k + j)]? = some u ∧ CellOK E ob.kind id hops i (k + j) c u := fun j hj => by
              have hj' : k + j < r.length := by omega
              have h1 : r[k + j]? = some r[k + j] := by simp [hj']
              have h2 : cellAt rows i (k + j) = some r[k + j] := by simp [cellAt, hrow, hj']
              obtain ⟨u, hu, ho⟩ := hcell i (k + j) _ h2
              exact ⟨_, u, h1, h2, hu, ho⟩
            refine ⟨_, (List.range n).map (fun j => cur.getD (i * sz' + (k + j)) undef), rfl, ?_, ⟨?_, ?_⟩, by simp, ?_⟩
            · intro j u hju
              simp only [List.getElem?_map] at hju
              cases hjr : (List.range n)[j]? with
              | none => rw [hjr] at hju; cases hju
              | some j' =>
                rw [hjr] at hju
                obtain ⟨hjlt, hj'⟩ := List.getElem?_eq_some_iff.1 hjr
                simp at hj' hjlt
                subst hj'
                obtain ⟨c, u', h1, h2, hu, ho⟩ := hcc j hjlt
                simp only [Option.map_some, Option.some.injEq] at hju
                rw [Array.getD_eq_getD_getElem?, hu] at hju
                simp at hju
                subst hju
                rw [addr_add]
                unfold World.cell?
                simp only [hg]
                rw [if_neg (by simp), Nat.add_assoc]
                exact hu
            · rw [viewRow_length]; simp; omega
            · intro j c' u hc' hu'
              obtain ⟨c, hc, rfl⟩ := viewRow_get _ _ _ _ hc'
              rw [List.getElem?_take] at hc
              split at hc
              · rename_i hj
                rw [List.getElem?_drop] at hc
                obtain ⟨c2, u2, h1, h2, hu, ho⟩ := hcc j hj
                rw [h1] at hc
                cases hc
                simp only [List.getElem?_map, List.getElem?_range hj, Option.map_some, Option.some.injEq] at hu'
                rw [Array.getD_eq_getD_getElem?, hu] at hu'
                simp at hu'
                subst hu'
                exact view_L h hb h2 ho
              · cases hc
            · intro u hu
              obtain ⟨j, hj, rfl⟩ := List.mem_map.1 hu
              obtain ⟨c, u', h1, h2, hu', ho⟩ := hcc j (by simpa using hj)
              rw [Array.getD_eq_getD_getElem?, hu']
              simp only [Option.getD_some]
              unfold CellOK at ho
              split at ho
              · rw [ho]; rfl
              · exact ho.2
          · cases hr
        · cases hr
      · cases hr
    · cases hr
  | sref cells b off us hst hL =>
    simp only [readC] at hr
    split at hr
    · rename_i hlen
      simp only [decide_eq_true_eq] at hlen
      cases hr
      refine ⟨_, (List.range n).map us, rfl, ?_, ⟨by simp; omega, ?_⟩, by simp, ?_⟩
      · intro j u hju
        simp only [List.getElem?_map] at hju
        cases hjr : (List.range n)[j]? with
        | none => rw [hjr] at hju; cases hju
        | some j' =>
          rw [hjr] at hju
          obtain ⟨hjlt, hj'⟩ := List.getElem?_eq_some_iff.1 hjr
          simp at hj' hjlt
          subst hj'
          cases hju
          rw [addr_add]
          have hj2 : j < cells.length := by omega
          exact (h.stable _ _ _ (hst j cells[j] (by simp [hj2]))).1
      · intro j c u hc hu
        rw [List.getElem?_take] at hc
        split at hc
        · rename_i hj
          simp only [List.getElem?_map, List.getElem?_range hj, Option.map_some, Option.some.injEq] at hu
          subst hu
          exact (hL j c hc).mono E.shut_le
        · cases hc
      · intro u hu
        obtain ⟨j, hj, rfl⟩ := List.mem_map.1 hu
        have hj2 : j < cells.length := by have : j < n := by simpa using hj
                                          omega
        exact (h.stable _ _ _ (hst j cells[j] (by simp [hj2]))).2
    · cases hr
  | _ => simp [readC] at hr

def descAgg : TypeDesc → Bool
  | .struct _ | .array _ _ => true
  | _ => false

theorem run_isAgg {P : Program} {t : TypeId} {d : TypeDesc} (h : P.underlying t = some d) (w : World) : (isAgg t).run P w = .ok (descAgg d) w := by
  simp only [isAgg, Sem.run_bind, run_underlying h, Result.andThen_ok]
  cases d <;> rfl

/-- A load. -/
def loadC (P : Program) (H : Heap) (t : TypeId) (c : C) : Option C :=
  match P.underlying t, P.info? t with
  | some d, some i =>
    if descAgg d then (readC H c i.size).map .agg
    else match readC H c 1 with
      | some [x] => some x
      | _ => none
  | _, _ => none

section
variable {P : Program} {o : Oper} {ρ : Operand → C} {H : Heap}

theorem OpV0.load (t : TypeId) (x : Operand) (ho : o.op = .load t x) {c : C} (hc : loadC P H t (ρ x) = some c) : OpV0 P o ρ H c H := fun w E σ hh hl K hk => by
  have hx := hl x (by simp [ho, Op.operands])
  unfold loadC at hc
  split at hc
  · rename_i d i hd hi
    by_cases hag : descAgg d = true
    · rw [if_pos hag] at hc
      cases hr : readC H (ρ x) i.size with
      | none => rw [hr] at hc; cases hc
      | some cs =>
        rw [hr] at hc
        cases hc
        obtain ⟨a, us, ha, hcell, hll, hlen, hone⟩ := readC_L hh hx hr
        have hr' : (execOp σ o).run P w = .ok (.value (.agg us.toArray)) w := by
          unfold execOp
          have h3 := run_loadCells_list (P := P) (w := w) a us (fun j v hj => hcell j v hj)
          rw [hlen] at h3
          simp [ho, Instr.loadAt, Instr.sureAddr, ha, loadVar, run_isAgg hd, hag, run_sizeOf' hi, h3]
        rw [hr']
        exact hk _ w E hh (.agg cs us.toArray (by simpa using hll.1) (fun i c y e1 e2 => hll.2 i c y e1 (by simpa using e2)) (fun u hu => hone u (by simpa using hu))) (Grow0.refl w E H)
    · rw [if_neg hag] at hc
      split at hc
      · rename_i x0 hr
        cases hc
        obtain ⟨a, us, ha, hcell, hll, hlen, hone⟩ := readC_L hh hx hr
        obtain ⟨u, rfl⟩ : ∃ u, us = [u] := by
          match us, hlen with
          | [u], _ => exact ⟨u, rfl⟩
        have hu := hcell 0 u rfl
        have ha0 : a.add 0 = a := by simp [Addr.add]
        rw [ha0] at hu
        have hr' : (execOp σ o).run P w = .ok (.value u) w := by
          unfold execOp
          simp [ho, Instr.loadAt, Instr.sureAddr, ha, loadVar, run_isAgg hd, hag, hu]
        rw [hr']
        exact hk _ w E hh hll.cons_inv.1 (Grow0.refl w E H)
      · cases hc
  · cases hc

end
end Go.Ab
