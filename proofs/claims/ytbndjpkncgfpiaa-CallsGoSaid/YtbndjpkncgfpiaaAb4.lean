/- What operations yield over an abstract state: moves, new variables, addresses, loads, calls. -/
import Derived.Test.YtbndjpkncgfpiaaAb3
namespace Go.Ab
set_option linter.unusedVariables false

section
variable {P : Program} {o : Oper} {ρ : Operand → C} {H : Heap}

theorem run_sizeOf' {t : TypeId} {i : TypeInfo} (h : P.info? t = some i) (w : World) : (sizeOf t).run P w = .ok i.size w := by
  simp [sizeOf, typeInfo, h]
theorem run_zeroValue' {t : TypeId} {i : TypeInfo} {z : Value} (h : P.info? t = some i) (hz : i.zero = some z) (w : World) : (zeroValue t).run P w = .ok z w := by
  simp [zeroValue, typeInfo, h, hz]

theorem OpV0.move (x : Operand) (ho : o.op = .move x ∨ o.op = .assign x) : OpV0 P o ρ H (ρ x) H := fun w E σ hh hl K hk => by
  have h1 : (execOp σ o).run P w = .ok (.value (σ x)) w := by
    unfold execOp
    rcases ho with ho | ho <;> simp only [ho] <;> rfl
  rw [h1]
  exact hk _ w E hh (hl x (by rcases ho with ho | ho <;> simp [ho, Op.operands])) (Grow0.refl w E H)

theorem OpV0.pick (x y z : Operand) (ho : o.op = .pick x y z) (b : Bool) (hb : ρ x = .v (.bool b)) : OpV0 P o ρ H (if b then ρ y else ρ z) H := fun w E σ hh hl K hk => by
  have h0 := hl x (by simp [ho, Op.operands])
  rw [hb] at h0
  have hx : σ x = .bool b := by generalize σ x = u at *; cases h0; rfl
  have h1 : (execOp σ o).run P w = .ok (.value (if b then σ y else σ z)) w := by
    unfold execOp
    simp only [ho, hx]
    cases b <;> rfl
  rw [h1]
  refine hk _ w E hh ?_ (Grow0.refl w E H)
  cases b
  · exact hl z (by simp [ho, Op.operands])
  · exact hl y (by simp [ho, Op.operands])

/-! ### New variables -/

theorem cellAt_one {cs : List C} {i k : Nat} {c : C} : cellAt [cs] i k = some c ↔ i = 0 ∧ cs[k]? = some c := by
  unfold cellAt
  cases i <;> simp

theorem HRel0.pushVar {w : World} {E : Env} (h : HRel0 w E H) (ty : TypeId) (cs : List C) (ys : Array Value) (hl : LL E cs ys.toList) (hn : cs.all noOwn = true) (h1 : ∀ y ∈ ys, y.oneCell' = true) :
    HRel0 (w.alloc (.cells ys ty)) (E.push w.heap.size 1) (H ++ [⟨1, ty, cs.length, [cs], 0⟩]) ∧ Grow0 w E H (w.alloc (.cells ys ty)) (E.push w.heap.size 1) (H ++ [⟨1, ty, cs.length, [cs], 0⟩]) := by
  refine h.push 1 ty cs.length 1 [cs] ys (.inl rfl) (by simp) (by simp) (by have := hl.1; simp at this; omega) ?_ ?_
  · intro i k c hc
    obtain ⟨_, hc⟩ := cellAt_one.1 hc
    exact List.all_eq_true.1 hn c (List.mem_of_getElem? hc)
  · intro i k c hc
    obtain ⟨rfl, hc⟩ := cellAt_one.1 hc
    obtain ⟨y, hy, hly⟩ := hl.get hc
    refine ⟨y, by simpa using hy, by simpa [Env.at] using hly, h1 y ?_⟩
    have := List.mem_of_getElem? hy
    simpa using this

/-- A type's zero value, as cells. -/
def zeroC (P : Program) (t : TypeId) : Option (List C) :=
  match P.info? t with
  | some i => match i.zero with
    | some z => if z.cells.toList.all (·.oneCell') && (z.cells.size == i.size) then some (z.cells.toList.map ofV) else none
    | none => none
  | none => none

theorem zeroC_spec {t : TypeId} {cs : List C} (h : zeroC P t = some cs) (E : Env) : ∃ i z, P.info? t = some i ∧ i.zero = some z ∧ LL E cs z.cells.toList ∧ (∀ y ∈ z.cells, y.oneCell' = true) ∧ z.cells.size = i.size ∧ cs.all noOwn = true ∧ cs.length = i.size := by
  unfold zeroC at h
  split at h
  · rename_i i hi
    split at h
    · rename_i z hz
      split at h
      · rename_i hc
        cases h
        simp only [Bool.and_eq_true, beq_iff_eq, List.all_eq_true] at hc
        refine ⟨i, z, hi, hz, ⟨by simp, ?_⟩, fun y hy => hc.1 y (by simpa using hy), hc.2, ?_, by simp [hc.2]⟩
        · intro k c y h1 h2
          rw [List.getElem?_map, h2] at h1
          cases h1
          exact ofV_L E y
        · rw [List.all_eq_true]
          intro c hcm
          obtain ⟨y, hy, rfl⟩ := List.mem_map.1 hcm
          unfold ofV
          split <;> (try split) <;> rfl
      · cases h
    · cases h
  · cases h

theorem L_var {w : World} {E : Env} (h : HRel0 w E H) (g κ sz : Nat) : L (E.push g κ) (.ref H.length [] sz 0 0) (.pointer (some ⟨g, 0, none⟩)) := by
  have := L.ref (E := E.push g κ) H.length [] sz 0 0 (by simp [Env.push, h.n])
  have hb : (E.push g κ).β H.length [] = g := by simp [Env.push, h.n]
  rw [hb] at this
  simpa using this

theorem OpV0.alloc (t : TypeId) (ho : o.op = .alloc t) {cs : List C} (hz : zeroC P t = some cs) : OpV0 P o ρ H (.ref H.length [] cs.length 0 0) (H ++ [⟨1, t, cs.length, [cs], 0⟩]) := fun w E σ hh hl K hk => by
  obtain ⟨i, z, hi, hz, hll, h1, hsz, hn, hlen⟩ := zeroC_spec hz E
  have hr : (execOp σ o).run P w = .ok (.value (.pointer (some ⟨w.heap.size, 0, none⟩))) (w.alloc (.cells z.cells t)) := by
    unfold execOp
    simp only [ho, Instr.alloc, Sem.run_bind, run_zeroValue' hi hz, Result.andThen_ok, newVar, newRow]
    rfl
  rw [hr]
  obtain ⟨a, b⟩ := hh.pushVar t cs z.cells hll hn h1
  exact hk _ _ _ a (L_var hh _ _ _) b

/-- Cells that a variable may hold. -/
def cellC : C → Bool
  | .v _ => true
  | .lst o _ _ => o != 2
  | .sref _ | .ref .. | .sl .. | .fn .. | .mp _ | .gl .. | .ifc .. | .rc _ => true
  | _ => false

theorem cellC_one {E : Env} {c : C} {y : Value} (h : L E c y) (hc : cellC c = true) : y.oneCell' = true := by
  cases h with
  | v x hx => exact hx
  | agg => simp [cellC] at hc
  | tup => simp [cellC] at hc
  | un => simp [cellC] at hc
  | junk => simp [cellC] at hc
  | gl id sz rows y hn hg h => cases h <;> rfl
  | _ => rfl

theorem cellC_own {c : C} (hc : cellC c = true) : noOwn c = true := by
  unfold cellC at hc
  unfold noOwn
  split at hc <;> first | rfl | (split <;> simp_all) | cases hc

/-- A value that may be stored. -/
def valC : C → Bool
  | .agg cs => cs.all noOwn
  | c => cellC c

theorem valC_cells {E : Env} {c : C} {y : Value} (h : L E c y) (hc : valC c = true) : LL E c.cells y.cells.toList ∧ (∀ u ∈ y.cells, u.oneCell' = true) ∧ c.cells.all noOwn = true := by
  cases c with
  | agg cs =>
    cases h with
    | agg _ ys h1 h2 h3 => exact ⟨⟨by simpa [C.cells, Value.cells] using h1, fun i c y e1 e2 => h2 i c y e1 (by simpa [Value.cells] using e2)⟩, h3, by simpa [valC, C.cells] using hc⟩
  | junk => simp [valC, cellC] at hc
  | un => simp [valC, cellC] at hc
  | tup => simp [valC, cellC] at hc
  | _ =>
    have ho := cellC_one h (by simpa [valC] using hc)
    have hcell : y.cells = #[y] := by cases y <;> first | rfl | (simp [Value.oneCell'] at ho)
    refine ⟨h.cells (by simp) (by simp), by rw [hcell]; simpa using ho, ?_⟩
    have := cellC_own (by simpa [valC] using hc)
    simpa [C.cells] using this

theorem OpV0.box (t : TypeId) (x : Operand) (ho : o.op = .box t x) (hc : valC (ρ x) = true) : OpV0 P o ρ H (.ref H.length [] (ρ x).cells.length 0 0) (H ++ [⟨1, t, (ρ x).cells.length, [(ρ x).cells], 0⟩]) := fun w E σ hh hl K hk => by
  obtain ⟨hll, h1, hn⟩ := valC_cells (hl x (by simp [ho, Op.operands])) hc
  have hr : (execOp σ o).run P w = .ok (.value (.pointer (some ⟨w.heap.size, 0, none⟩))) (w.alloc (.cells (σ x).cells t)) := by
    unfold execOp
    simp only [ho, Instr.box, newVar, newRow]
    rfl
  rw [hr]
  obtain ⟨a, b⟩ := hh.pushVar t _ _ hll hn h1
  exact hk _ _ _ a (L_var hh _ _ _) b

/-! ### Addresses -/

theorem addr_add (b off n : Nat) : (⟨b, off, none⟩ : Addr).add n = ⟨b, off + n, none⟩ := by
  unfold Addr.add
  split <;> simp_all

/-- An address, so many cells further. -/
def further (c : C) (n : Nat) : Option C :=
  match c with
  | .ref id hops sz i k => some (.ref id hops sz i (k + n))
  | .sref cells => some (.sref (cells.drop n))
  | _ => none

theorem further_L {E : Env} {c c' : C} {y : Value} {n : Nat} (h : L E c y) (hf : further c n = some c') : ∃ a, y = .pointer (some a) ∧ L E c' (.pointer (some (a.add n))) := by
  cases h with
  | ref id hops sz i k hn =>
    simp only [further] at hf
    cases hf
    refine ⟨_, rfl, ?_⟩
    rw [addr_add, Nat.add_assoc]
    exact .ref id hops sz i (k + n) hn
  | sref cells b off us hst hL =>
    simp only [further] at hf
    cases hf
    refine ⟨_, rfl, ?_⟩
    rw [addr_add]
    exact .sref _ b (off + n) (fun k => us (n + k)) (fun k c hc => by rw [List.getElem?_drop] at hc; rw [Nat.add_assoc]; exact hst _ c hc) (fun k c hc => by rw [List.getElem?_drop] at hc; exact hL _ c hc)
  | _ => simp [further] at hf

theorem OpV0.fieldAddr (t : TypeId) (x : Operand) (f : Nat) (ho : o.op = .fieldAddr t x f) {fs : Array Field} {fd : Field} {i : TypeInfo} (ht : P.underlying t = some (.struct fs)) (hf : fs[f]? = some fd)
    (hi : P.info? fd.type = some i) (hsz : i.size ≠ 0) {c : C} (hc : further (ρ x) fd.offset = some c) : OpV0 P o ρ H c H := fun w E σ hh hl K hk => by
  obtain ⟨a, ha, hla⟩ := further_L (hl x (by simp [ho, Op.operands])) hc
  have hr : (execOp σ o).run P w = .ok (.value (.pointer (some (a.add fd.offset)))) w := by
    unfold execOp
    simp [ho, Instr.fieldAt, run_underlying ht, hf, ha, Instr.sureAddr, fieldPlace, run_sizeOf' hi, hsz]
  rw [hr]
  exact hk _ w E hh hla (Grow0.refl w E H)

/-- The address of an element. -/
def elemC (c : C) (size n : Nat) : Option C :=
  match c with
  | .lst o sz rows => if (o == 0 || o == 1) && (sz == size) then (rows[n]?).map .sref else none
  | .sl id hops sz lo len _ => if decide (n < len) && (sz == size) then some (.ref id hops sz (lo + n) 0) else none
  | _ => none

/-- The length of a list. -/
def lenC : C → Option Nat
  | .lst _ _ rows => some rows.length
  | .sl _ _ _ _ len _ => some len
  | _ => none

theorem elemC_L {E : Env} {c c' : C} {y : Value} {size n : Nat} (h : L E c y) (hf : elemC c size n = some c') :
    ∃ a len cap, y = .slice (some a) len cap ∧ n < len ∧ L E c' (.pointer (some (a.add (n * size)))) := by
  cases h with
  | lst o sz rows b off cap us ho hc hsz hst hL =>
    simp only [elemC] at hf
    split at hf
    · rename_i hcond
      simp only [Bool.and_eq_true, beq_iff_eq] at hcond
      obtain ⟨_, rfl⟩ := hcond
      cases hr : rows[n]? with
      | none => rw [hr] at hf; cases hf
      | some r =>
        rw [hr] at hf
        cases hf
        refine ⟨_, _, _, rfl, (List.getElem?_eq_some_iff.1 hr).1, ?_⟩
        rw [addr_add]
        exact .sref r b (off + n * sz) (us n) (fun k c hc => hst n r k c hr hc) (fun k c hc => hL n r k c hr hc)
    · cases hf
  | lnil o sz ho =>
    simp [elemC] at hf
  | sl id hops sz lo len full cap hn hlen hfull hf' =>
    simp only [elemC] at hf
    split at hf
    · rename_i hcond
      simp only [Bool.and_eq_true, beq_iff_eq, decide_eq_true_eq] at hcond
      obtain ⟨hlt, rfl⟩ := hcond
      cases hf
      refine ⟨_, _, _, rfl, hlt, ?_⟩
      rw [addr_add, ← Nat.add_mul]
      exact .ref id hops sz (lo + n) 0 hn
    · cases hf
  | _ => simp [elemC] at hf

theorem OpV0.indexAddr (t : TypeId) (x y : Operand) (ho : o.op = .indexAddr t x y) {e : TypeId} {i : TypeInfo} (ht : P.underlying t = some (.slice e)) (hi : P.info? e = some i)
    {k : IntKind} {n : Int} (hy : ρ y = .v (.int k n)) (h0 : 0 ≤ n) {c : C} (hc : elemC (ρ x) i.size n.toNat = some c) : OpV0 P o ρ H c H := fun w E σ hh hl K hk => by
  obtain ⟨a, len, cap, ha, hlt, hla⟩ := elemC_L (hl x (by simp [ho, Op.operands])) hc
  have h1 := hl y (by simp [ho, Op.operands])
  rw [hy] at h1
  have hyv : σ y = .int k n := by generalize σ y = u at *; cases h1; rfl
  have hn : 0 ≤ n ∧ n < (len : Int) := ⟨h0, by omega⟩
  have hr : (execOp σ o).run P w = .ok (.value (.pointer (some (a.add (n.toNat * i.size))))) w := by
    unfold execOp
    simp [ho, Instr.indexAt, asIntOf, hyv, ha, run_underlying ht, hn.1, hn.2, run_sizeOf' hi]
  rw [hr]
  exact hk _ w E hh hla (Grow0.refl w E H)

end
end Go.Ab
