/- Slices made, cut and written out; operations on numbers and texts that ask for a fact. -/
import Derived.Test.YtbndjpkncgfpiaaAbA
namespace Go.Ab
set_option linter.unusedVariables false

section
variable {P : Program} {o : Oper} {ρ : Operand → C} {H : Heap}

/-! ### make -/

theorem madeCells_get (z : Array Value) (n j : Nat) (h : j < n) : (madeCells z n)[j]? = some z[j % z.size]! := by
  simp [madeCells, h]

theorem rowsL_replicate {E : Env} {t : TypeId} {cs : List C} (hz : zeroC P t = some cs) (hsh : cs.all shutC = true) (n : Nat) : ∃ i z, P.info? t = some i ∧ i.zero = some z ∧ z.cells.size = i.size ∧ cs.length = i.size ∧
    RowsL E i.size (List.replicate n cs) (madeCells z.cells (n * i.size)).toList := by
  obtain ⟨i, z, hi, hzz, hll, h1, hsz, hno, hlen⟩ := zeroC_spec hz E
  refine ⟨i, z, hi, hzz, hsz, hlen, ⟨by simp [madeCells], fun r hr => by rw [(List.mem_replicate.1 hr).2]; exact hlen, ?_, ?_⟩⟩
  · intro r k c hc
    unfold cellAt at hc
    rw [List.getElem?_replicate] at hc
    split at hc
    · rename_i hr
      simp only [Option.bind_some] at hc
      have hk : k < i.size := by rw [← hlen]; exact (List.getElem?_eq_some_iff.1 hc).1
      obtain ⟨u, hu, hl⟩ := hll.get hc
      have hlt : r * i.size + k < n * i.size := by
        have : (r + 1) * i.size ≤ n * i.size := Nat.mul_le_mul_right _ hr
        rw [Nat.add_mul] at this
        omega
      refine ⟨u, ?_, hl.toShut (List.all_eq_true.1 hsh c (List.mem_of_getElem? hc))⟩
      rw [Array.getElem?_toList, madeCells_get _ _ _ hlt, hsz, Nat.mul_comm, Nat.mul_add_mod, Nat.mod_eq_of_lt hk]
      rw [Array.getElem?_toList] at hu
      rw [getElem!_def, hu]
    · simp at hc
  · intro u hu
    obtain ⟨j, hj⟩ := List.mem_iff_getElem?.1 hu
    rw [Array.getElem?_toList] at hj
    have hlt : j < n * i.size := by
      have := (Array.getElem?_eq_some_iff.1 hj).1
      simpa [madeCells] using this
    rw [madeCells_get _ _ _ hlt] at hj
    cases hj
    have hpos : 0 < i.size := by rcases Nat.eq_zero_or_pos i.size with h | h <;> simp_all
    have hm : j % z.cells.size < z.cells.size := Nat.mod_lt _ (by omega)
    rw [getElem!_pos z.cells _ hm]
    exact h1 _ (Array.getElem_mem hm)

/-- make([]T, n), n and its room the same. -/
theorem OpV0.makeSlice (t : TypeId) (x y : Operand) (ho : o.op = .makeSlice t x y) {e : TypeId} {i : TypeInfo} (ht : P.underlying t = some (.slice e)) (hi : P.info? e = some i) {cs : List C} (hz : zeroC P e = some cs) (hsh : cs.all shutC = true)
    {k k' : IntKind} {n : Int} (hx : ρ x = .v (.int k n)) (hy : ρ y = .v (.int k' n)) (h0 : 0 ≤ n) (hb : (i.bytes : Int) * n ≤ 281474976710656) (hm : n ≤ 9223372036854775807) :
    OpV0 P o ρ H (.sl H.length [] i.size 0 n.toNat false) (H ++ [⟨2, e, i.size, List.replicate n.toNat cs, 0⟩]) := fun w E σ hh hl K hk => by
  have h1 := hl x (by simp [ho, Op.operands])
  have h2 := hl y (by simp [ho, Op.operands])
  rw [hx] at h1
  rw [hy] at h2
  have hxv : σ x = .int k n := by generalize σ x = u at *; cases h1; rfl
  have hyv : σ y = .int k' n := by generalize σ y = u at *; cases h2; rfl
  obtain ⟨i', z, hi', hzz, hsz, hlen, hrows⟩ := rowsL_replicate (E := E) hz hsh n.toNat
  rw [hi] at hi'
  cases hi'
  have hr0 := run_make (P := P) w t e i z ht hi hzz k k' n n h0 (Int.le_refl _) hb hm
  have hr : (execOp σ o).run P w = .ok (.value (.slice (some ⟨w.heap.size, 0, none⟩) n.toNat n.toNat)) (w.alloc (.cells (madeCells z.cells (n.toNat * i.size)) e)) := by
    unfold execOp
    simp only [ho, hxv, hyv, Sem.run_bind, hr0, Result.andThen_ok]
    rfl
  rw [hr]
  have hB := hh.pushArr e (κ := n.toNat) hrows (cur := madeCells z.cells (n.toNat * i.size)) (by simp) (by simp [madeCells]) (by rw [List.take_length])
  exact hk _ _ _ hB.1 (L_arr hh.n _ _ _ _ false n.toNat (Nat.le_refl _) (by simp) (fun _ => rfl)) hB.2

/-! ### A slice written out: shared at once, and full -/

def chunk (sz : Nat) : Nat → List C → List (List C)
  | 0, _ => []
  | n + 1, cs => cs.take sz :: chunk sz n (cs.drop sz)

theorem chunk_length (sz : Nat) : ∀ (n : Nat) (cs : List C), (chunk sz n cs).length = n
  | 0, _ => rfl
  | n + 1, cs => by simp [chunk, chunk_length sz n]

theorem chunk_get (sz : Nat) : ∀ (n : Nat) (cs : List C) (i : Nat), i < n → (chunk sz n cs)[i]? = some ((cs.drop (i * sz)).take sz)
  | 0, _, _, h => absurd h (Nat.not_lt_zero _)
  | n + 1, cs, 0, _ => by simp [chunk]
  | n + 1, cs, i + 1, h => by
    simp only [chunk, List.getElem?_cons_succ]
    rw [chunk_get sz n _ i (by omega), List.drop_drop]
    congr 3
    rw [Nat.add_mul]
    omega

/-- Cells of a new block that never change. -/
def Env.still (E : Env) (g : Nat) (cur : Array Value) : Env := { E with St := fun b o => if b = g then cur[o]? else E.St b o }

theorem HRel0.pushStill {w : World} {E : Env} {H : Heap} (h : HRel0 w E H) (ty : TypeId) (cur : Array Value) (h1 : ∀ y ∈ cur, y.oneCell' = true) :
    HRel0 (w.alloc (.cells cur ty)) (E.still w.heap.size cur) H ∧ Grow0 w E H (w.alloc (.cells cur ty)) (E.still w.heap.size cur) H := by
  have hle : E.le (E.still w.heap.size cur) := ⟨Nat.le_refl _, fun _ _ _ => rfl, fun _ _ _ => rfl, fun b o u hu => by
    have hlt := cell_lt (h.stable b o u hu).1
    simp only [Env.still]
    rw [if_neg (by omega)]
    exact hu, fun _ _ _ _ hu => hu⟩
  refine ⟨⟨h.n, ?_, h.inj, ?_, ?_, ?_, h.fz⟩, ⟨hle, fun _ _ _ => rfl, rfl, rfl, rfl, by show _ ≤ (w.heap.push _).size; simp, fun k hk ho => heap_alloc_old w _ hk, ?_, fun b hb => .inr hb⟩⟩
  · intro id ob hops sz rows hob hx
    have hb := h.blk id ob hops sz rows hob hx
    exact hb.step hle (by rw [h.n]; exact getB_lt hx) (heap_alloc_old w _ hb.heap_lt)
  · intro b o u hu
    simp only [Env.still] at hu
    split at hu
    · rename_i hb
      subst hb
      refine ⟨?_, h1 u (Array.mem_of_getElem? hu)⟩
      rw [World.cell?_alloc_new]
      exact hu
    · have hs := h.stable b o u hu
      exact ⟨by rw [cell_alloc (cell_lt hs.1)]; exact hs.1, hs.2⟩
  · intro id hops x o u hx hu
    have hlt := h.lt hx
    simp only [Env.still] at hu
    have hne : ¬ E.β id hops = w.heap.size := by omega
    rw [if_neg hne] at hu
    exact h.sep id hops x o u hx hu
  · intro id ob hob hk
    obtain ⟨cur', hc⟩ := h.ty id ob hob hk
    exact ⟨cur', by show (w.alloc _).heap[E.β id []]? = _; rw [heap_alloc_old w _ (Array.getElem?_eq_some_iff.1 hc).1]; exact hc⟩
  · intro b o u hu
    simp only [Env.still] at hu
    split at hu
    · rename_i hb; exact .inr (.inl (by omega))
    · exact .inl hu

/-- A slice written out, as rows. -/
def litC (P : Program) (t : TypeId) (len : Nat) (parts : List (Nat × C)) : Option C :=
  match P.underlying t with
  | some (.slice e) => match P.info? e, zeroC P e with
    | some i, some z => if decide (len * i.size ≤ 16777216) && decide (0 < i.size) then
        match fillC (fun j => some (j * i.size, i.size)) (List.replicate len z).flatten parts with
        | some cs => if cs.all shutC && (cs.length == len * i.size) then some (.lst 1 i.size (chunk i.size len cs)) else none
        | none => none
      else none
    | _, _ => none
  | _ => none

theorem flatten_replicate_get {α : Type} (z : List α) (n j : Nat) (h : j < n * z.length) : (List.replicate n z).flatten[j]? = z[j % z.length]? := by
  induction n generalizing j with
  | zero => simp at h
  | succ n ih =>
    rw [List.replicate_succ, List.flatten_cons]
    by_cases hj : j < z.length
    · rw [List.getElem?_append_left hj, Nat.mod_eq_of_lt hj]
    · rw [List.getElem?_append_right (by omega), ih (j - z.length) (by rw [Nat.add_mul] at h; omega)]
      congr 1
      rw [← Nat.mod_eq_sub_mod (by omega)]

theorem OpV0.buildSlice (t : TypeId) (len : Nat) (parts : Array (Nat × Operand)) (ho : o.op = .buildSlice t len parts) {c : C} (hb : litC P t len (parts.toList.map fun p => (p.1, ρ p.2)) = some c) : OpV0 P o ρ H c H := fun w E σ hh hl K hk => by
  have hp : ∀ p ∈ parts.toList, L E (ρ p.2) (σ p.2) := fun p hpm => hl p.2 (by
    simp only [ho, Op.operands]
    exact (List.mem_toArray).2 (List.mem_map.2 ⟨p, hpm, rfl⟩))
  unfold litC at hb
  split at hb
  rotate_left
  · cases hb
  rename_i e hu
  split at hb
  rotate_left
  · cases hb
  rename_i i z hi hz
  split at hb
  rotate_left
  · cases hb
  rename_i hcond
  simp only [Bool.and_eq_true, decide_eq_true_eq] at hcond
  split at hb
  rotate_left
  · cases hb
  rename_i cs hf
  split at hb
  rotate_left
  · cases hb
  rename_i hcond2
  simp only [Bool.and_eq_true, beq_iff_eq] at hcond2
  cases hb
  obtain ⟨i', zv, h1, h2, h3, h4, h5, h6, h7⟩ := zeroC_spec hz E
  rw [hi] at h1
  cases h1
  obtain ⟨arr0, harr0⟩ : ∃ arr0, arr0 = (Array.range (len * i.size)).map (fun j => zv.cells[j % zv.cells.size]!) := ⟨_, rfl⟩
  have hget0 : ∀ j, j < len * i.size → arr0[j]? = zv.cells[j % i.size]? := by
    intro j hj
    rw [harr0]
    have hm : j % zv.cells.size < zv.cells.size := Nat.mod_lt _ (by omega)
    simp only [Array.getElem?_map, Array.getElem?_range, hj, if_true, Option.map_some]
    rw [getElem!_pos zv.cells _ hm, ← h5, Array.getElem?_eq_getElem hm]
  have hsize0 : arr0.size = len * i.size := by rw [harr0]; simp
  have hl0 : LL E (List.replicate len z).flatten arr0.toList := by
    refine ⟨by simp [hsize0, h7], ?_⟩
    intro j c y hc hy
    rw [Array.getElem?_toList] at hy
    have hj : j < len * i.size := by rw [← hsize0]; exact (Array.getElem?_eq_some_iff.1 hy).1
    rw [hget0 j hj] at hy
    rw [flatten_replicate_get z len j (by rw [h7]; exact hj), h7] at hc
    exact h3.2 _ c y hc (by simpa using hy)
  have hone0 : ∀ u ∈ arr0, u.oneCell' = true := by
    intro u hum
    obtain ⟨j, hj⟩ := Array.mem_iff_getElem?.1 hum
    have hjl : j < len * i.size := by rw [← hsize0]; exact (Array.getElem?_eq_some_iff.1 hj).1
    rw [hget0 j hjl] at hj
    exact h4 u (Array.mem_of_getElem? hj)
  have hno0 : (List.replicate len z).flatten.all noOwn = true := by
    rw [List.all_eq_true]
    intro c hc
    obtain ⟨l, hlm, hcl⟩ := List.mem_flatten.1 hc
    rw [(List.mem_replicate.1 hlm).2] at hcl
    exact List.all_eq_true.1 h6 c hcl
  obtain ⟨arr, a1, a2, a3, a4⟩ := fill_LL parts.toList _ arr0 hl0 hone0 hno0 hp cs hf
  have hr : (execOp σ o).run P w = .ok (.value (.slice (some ⟨w.heap.size, 0, none⟩) len len)) (w.alloc (.cells arr e)) := by
    unfold execOp
    have hn : ¬ (2 ^ 24 < len * i.size) := by omega
    by_cases hlz : len * i.size = 0
    · have e0 : arr0 = #[] := by apply Array.eq_empty_of_size_eq_zero; rw [hsize0]; exact hlz
      rw [e0] at a1
      have e9 : ∀ f : Nat → Value, (Array.range 0).map f = #[] := fun f => Array.eq_empty_of_size_eq_zero (by simp)
      simp only [ho, Instr.buildSlice, Sem.run_bind, run_underlying hu, Result.andThen_ok, run_sizeOf' hi]
      rw [if_neg hn]
      simp [hlz, newRow, e9, a1]
    · simp only [ho, Instr.buildSlice, Sem.run_bind, run_underlying hu, Result.andThen_ok, run_sizeOf' hi]
      rw [if_neg hn]
      simp [hlz, run_zeroValue' hi h2, newRow, ← harr0, a1]
  rw [hr]
  have hB := hh.pushStill e arr a3
  refine hk _ _ _ hB.1 ?_ hB.2
  have hlc : (chunk i.size len cs).length = len := chunk_length _ _ _
  have := L.lst (E := E.still w.heap.size arr) 1 i.size (chunk i.size len cs) w.heap.size 0 len (fun r k => arr.getD (r * i.size + k) undef) (.inr ⟨rfl, hlc.symm⟩) (by rw [hlc]; exact Nat.le_refl _) ?_ ?_ ?_
  · rw [hlc] at this; exact this
  · intro r hrm
    obtain ⟨j, hj⟩ := List.mem_iff_getElem?.1 hrm
    have hjl : j < len := by rw [← hlc]; exact (List.getElem?_eq_some_iff.1 hj).1
    rw [chunk_get _ _ _ _ hjl] at hj
    cases hj
    have : (j + 1) * i.size ≤ len * i.size := Nat.mul_le_mul_right _ hjl
    rw [Nat.add_mul] at this
    simp
    omega
  all_goals
    intro r row k c hrow hc
    have hrl : r < len := by rw [← hlc]; exact (List.getElem?_eq_some_iff.1 hrow).1
    rw [chunk_get _ _ _ _ hrl] at hrow
    cases hrow
    rw [List.getElem?_take] at hc
    split at hc
    rotate_left
    · cases hc
    rw [List.getElem?_drop] at hc
    obtain ⟨u, hu', hlu⟩ := a2.get hc
    rw [Array.getElem?_toList] at hu'
    have hgd : arr.getD (r * i.size + k) undef = u := by rw [Array.getD_eq_getD_getElem?, hu']; rfl
    rw [hgd]
  · simp only [Env.still, if_true, Nat.zero_add]
    exact hu'
  · have := hlu.toShut (List.all_eq_true.1 hcond2.1 c (List.mem_of_getElem? hc))
    exact this.mono hB.2.le.shut

end
end Go.Ab
