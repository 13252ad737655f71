/- Values put together and taken apart, over an abstract state. -/
import Derived.Test.YtbndjpkncgfpiaaAb7
namespace Go.Ab
set_option linter.unusedVariables false

section
variable {P : Program} {o : Oper} {ρ : Operand → C} {H : Heap}

theorem OpV0.extract (x : Operand) (n : Nat) (ho : o.op = .extract x n) {vs : List C} (hx : ρ x = .tup vs) {c : C} (hc : vs[n]? = some c) : OpV0 P o ρ H c H := fun w E σ hh hl K hk => by
  have h0 := hl x (by simp [ho, Op.operands])
  rw [hx] at h0
  obtain ⟨ys, hy, hlen, hll⟩ : ∃ ys, σ x = .tuple ys ∧ vs.length = ys.size ∧ ∀ (i : Nat) c y, vs[i]? = some c → ys[i]? = some y → L E c y := by
    generalize σ x = u at *
    cases h0 with
    | tup _ ys h1 h2 => exact ⟨ys, rfl, h1, h2⟩
  have hlt : n < ys.size := by rw [← hlen]; exact (List.getElem?_eq_some_iff.1 hc).1
  have hr : (execOp σ o).run P w = .ok (.value ys[n]) w := by
    unfold execOp
    simp [ho, Instr.extract, hy, hlt]
  rw [hr]
  exact hk _ w E hh (hll n c _ hc (by simp [hlt])) (Grow0.refl w E H)

def notNilC : C → Bool
  | .ref .. | .sref _ | .fn .. => true
  | _ => false

theorem OpV0.nilCheck (x : Operand) (ho : o.op = .nilCheck x) (hx : notNilC (ρ x) = true) : OpV0 P o ρ H (ρ x) H := fun w E σ hh hl K hk => by
  have h0 := hl x (by simp [ho, Op.operands])
  have hr : (execOp σ o).run P w = .ok (.value (σ x)) w := by
    unfold execOp
    generalize ρ x = c at *
    generalize hu : σ x = u at *
    cases h0 <;> first | (simp [notNilC] at hx; done) | (simp only [ho, hu]; rfl)
  rw [hr]
  exact hk _ w E hh h0 (Grow0.refl w E H)

theorem OpV0.makeFunc (f : FuncId) (first caps : Array Operand) (ho : o.op = .makeFunc (.func f) first caps) : OpV0 P o ρ H (.fn f (first.toList.map ρ) (caps.toList.map ρ)) H := fun w E σ hh hl K hk => by
  have hr : (execOp σ o).run P w = .ok (.value (.func (.func f) (first.map σ) (caps.map σ))) w := by
    unfold execOp
    simp only [ho]
    rfl
  rw [hr]
  refine hk _ w E hh (.fn f _ _ _ _ (by simp) (by simp) ?_ ?_) (Grow0.refl w E H)
  · intro i c y hc hy
    rw [List.getElem?_map] at hc
    rw [Array.getElem?_map] at hy
    cases ha : first[i]? with
    | none => rw [ha] at hy; cases hy
    | some a =>
      rw [Array.getElem?_toList, ha] at hc
      rw [ha] at hy
      cases hc
      cases hy
      exact hl a (by simp [ho, Op.operands]; left; exact Array.mem_of_getElem? ha)
  · intro i c y hc hy
    rw [List.getElem?_map] at hc
    rw [Array.getElem?_map] at hy
    cases ha : caps[i]? with
    | none => rw [ha] at hy; cases hy
    | some a =>
      rw [Array.getElem?_toList, ha] at hc
      rw [ha] at hy
      cases hc
      cases hy
      exact hl a (by simp [ho, Op.operands]; right; exact Array.mem_of_getElem? ha)

/-! ### Structs and arrays built -/

def fillC (place : Nat → Option (Nat × Nat)) : List C → List (Nat × C) → Option (List C)
  | cells, [] => some cells
  | cells, (i, c) :: rest => match place i with
    | none => none
    | some (off, size) => if valC c && (c.cells.length == size) && decide (off + size ≤ cells.length) then fillC place (writeRow off c.cells cells) rest else none

theorem foldl_set : ∀ (vs : List Value) (off k : Nat) (cells : Array Value), off + k + vs.length ≤ cells.size →
    ((vs.zipIdx k).foldl (fun cs (p : Value × Nat) => cs.setIfInBounds (off + p.2) p.1) cells).size = cells.size ∧
    ∀ j : Nat, ((vs.zipIdx k).foldl (fun cs (p : Value × Nat) => cs.setIfInBounds (off + p.2) p.1) cells)[j]? = if off + k ≤ j ∧ j < off + k + vs.length then vs[j - (off + k)]? else cells[j]?
  | [], off, k, cells, h => ⟨rfl, fun j => by rw [if_neg (by simp)]; rfl⟩
  | v :: vs, off, k, cells, h => by
    simp only [List.zipIdx_cons, List.foldl_cons, List.length_cons] at h ⊢
    have ih := foldl_set vs off (k + 1) (cells.setIfInBounds (off + k) v) (by simp; omega)
    refine ⟨by rw [ih.1]; simp, ?_⟩
    intro j
    rw [ih.2 j]
    by_cases h1 : off + k = j
    · subst h1
      rw [if_neg (by omega), if_pos (by omega), Array.getElem?_setIfInBounds]
      simp
      omega
    · by_cases h2 : off + (k + 1) ≤ j ∧ j < off + (k + 1) + vs.length
      · rw [if_pos h2, if_pos (by omega), show j - (off + k) = (j - (off + (k + 1))) + 1 from by omega]
        simp
      · rw [if_neg h2, if_neg (by omega), Array.getElem?_setIfInBounds]
        simp [h1]

theorem fill_LL {E : Env} {place : Nat → Option (Nat × Nat)} {ρ : Operand → C} {σ : Operand → Value} : ∀ (parts : List (Nat × Operand)) (cs : List C) (arr : Array Value), LL E cs arr.toList → (∀ u ∈ arr, u.oneCell' = true) → cs.all noOwn = true →
    (∀ p ∈ parts, L E (ρ p.2) (σ p.2)) → ∀ cs', fillC place cs (parts.map fun p => (p.1, ρ p.2)) = some cs' →
    ∃ arr', Instr.fill place arr (parts.map fun p => (p.1, σ p.2)) = some arr' ∧ LL E cs' arr'.toList ∧ (∀ u ∈ arr', u.oneCell' = true) ∧ cs'.all noOwn = true
  | [], cs, arr, hl, h1, hno, _, cs', h => by
    simp only [List.map_nil, fillC, Option.some.injEq] at h
    subst h
    exact ⟨arr, rfl, hl, h1, hno⟩
  | (i, x) :: rest, cs, arr, hl, h1, hno, hp, cs', h => by
    simp only [List.map_cons, fillC] at h
    split at h
    · cases h
    · rename_i off size hpl
      split at h
      · rename_i hcond
        simp only [Bool.and_eq_true, beq_iff_eq, decide_eq_true_eq] at hcond
        obtain ⟨⟨hv, hsz⟩, hfit⟩ := hcond
        have hx := hp (i, x) (by simp)
        obtain ⟨hll, hone, hnoc⟩ := valC_cells hx hv
        have hlen : (σ x).cells.size = size := by have := hll.1; simp at this; omega
        have hal : arr.size = cs.length := by have := hl.1; simp at this; omega
        obtain ⟨vs, hvs⟩ : ∃ vs, vs = (σ x).cells.toList := ⟨_, rfl⟩
        have hvl : vs.length = size := by rw [hvs]; simpa using hlen
        have hfold := foldl_set vs off 0 arr (by omega)
        have hfe : (σ x).cells.zipIdx.foldl (fun cs (p : Value × Nat) => cs.setIfInBounds (off + p.2) p.1) arr = (vs.zipIdx 0).foldl (fun cs (p : Value × Nat) => cs.setIfInBounds (off + p.2) p.1) arr := by
          rw [← Array.foldl_toList, Array.toList_zipIdx, hvs]
        obtain ⟨arr2, harr2⟩ : ∃ arr2, arr2 = (vs.zipIdx 0).foldl (fun cs (p : Value × Nat) => cs.setIfInBounds (off + p.2) p.1) arr := ⟨_, rfl⟩
        rw [← harr2] at hfold hfe
        have hcl : (ρ x).cells.length = size := hsz
        have hl2 : LL E (writeRow off (ρ x).cells cs) arr2.toList := by
          refine ⟨by rw [writeRow_length (by omega)]; simp [hfold.1, hal], ?_⟩
          intro j c y hc hy
          rw [writeRow_get (by omega)] at hc
          rw [Array.getElem?_toList, hfold.2 j] at hy
          simp only [Nat.add_zero] at hy
          split at hc
          · rename_i hin
            rw [if_pos (by omega)] at hy
            exact hll.2 _ c y hc (by rw [← hvs]; exact hy)
          · rename_i hin
            rw [if_neg (by omega)] at hy
            exact hl.2 j c y hc (by simpa using hy)
        have hone2 : ∀ u ∈ arr2, u.oneCell' = true := by
          intro u hu
          obtain ⟨j, hj⟩ := Array.mem_iff_getElem?.1 hu
          rw [hfold.2 j] at hj
          split at hj
          · have := List.mem_of_getElem? hj
            rw [hvs] at this
            exact hone u (by simpa using this)
          · exact h1 u (Array.mem_of_getElem? hj)
        have hno2 : (writeRow off (ρ x).cells cs).all noOwn = true := by
          rw [List.all_eq_true]
          intro c hc
          unfold writeRow at hc
          simp only [List.mem_append] at hc
          rcases hc with (hc | hc) | hc
          · exact List.all_eq_true.1 hno c (List.mem_of_mem_take hc)
          · exact List.all_eq_true.1 hnoc c hc
          · exact List.all_eq_true.1 hno c (List.mem_of_mem_drop hc)
        obtain ⟨arr', e1, e2, e3, e4⟩ := fill_LL rest _ arr2 hl2 hone2 hno2 (fun p hpm => hp p (by simp [hpm])) cs' h
        refine ⟨arr', ?_, e2, e3, e4⟩
        simp only [List.map_cons, Instr.fill, hpl]
        rw [if_neg (by simp [hlen]; omega), hfe]
        exact e1
      · cases h

/-- A struct or an array, built of parts. -/
def builtC (P : Program) (t : TypeId) (parts : List (Nat × C)) : Option (List C) :=
  match zeroC P t, P.underlying t with
  | some z, some (.array _ e) =>
    match P.info? e with
    | some ie => fillC (fun i => some (i * ie.size, ie.size)) z parts
    | none => none
  | some z, some (.struct fields) =>
    match fields.toList.mapM (fun f => (P.info? f.type).map fun i => (f.offset, i.size)) with
    | some places => fillC (places.toArray[·]?) z parts
    | none => none
  | _, _ => none

theorem OpV0.build (t : TypeId) (parts : Array (Nat × Operand)) (ho : o.op = .build t parts) {cs : List C} (hb : builtC P t (parts.toList.map fun p => (p.1, ρ p.2)) = some cs) : OpV0 P o ρ H (.agg cs) H := fun w E σ hh hl K hk => by
  have hp : ∀ p ∈ parts.toList, L E (ρ p.2) (σ p.2) := fun p hpm => hl p.2 (by
    simp only [ho, Op.operands]
    exact (List.mem_toArray).2 (List.mem_map.2 ⟨p, hpm, rfl⟩))
  have main : ∃ arr, P.built t (parts.map fun (i, x) => (i, σ x)).toList = some arr ∧ LL E cs arr.toList ∧ (∀ u ∈ arr, u.oneCell' = true) := by
    have e0 : (parts.map fun (i, x) => (i, σ x)).toList = parts.toList.map fun p => (p.1, σ p.2) := by simp
    rw [e0]
    unfold builtC at hb
    split at hb
    · rename_i z n e hz hu
      split at hb
      · rename_i ie hie
        obtain ⟨it, zv, h1, h2, h3, h4, h5, h6, h7⟩ := zeroC_spec hz E
        obtain ⟨arr, a1, a2, a3, a4⟩ := fill_LL parts.toList z zv.cells h3 h4 h6 hp cs hb
        exact ⟨arr, by simp only [Program.built, h1, hu, h2, hie]; exact a1, a2, a3⟩
      · cases hb
    · rename_i z fields hz hu
      split at hb
      · rename_i places hpl
        obtain ⟨it, zv, h1, h2, h3, h4, h5, h6, h7⟩ := zeroC_spec hz E
        obtain ⟨arr, a1, a2, a3, a4⟩ := fill_LL parts.toList z zv.cells h3 h4 h6 hp cs hb
        exact ⟨arr, by simp only [Program.built, h1, hu, h2, hpl]; exact a1, a2, a3⟩
      · cases hb
    · cases hb
  obtain ⟨arr, h1, h2, h3⟩ := main
  have hr : (execOp σ o).run P w = .ok (.value (.agg arr)) w := by
    unfold execOp
    simp only [ho, Sem.run_bind, run_build w t _ arr h1, Result.andThen_ok]
    rfl
  rw [hr]
  exact hk _ w E hh (.agg cs arr (by simpa using h2.1) (fun i c y e1 e2 => h2.2 i c y e1 (by simpa using e2)) h3) (Grow0.refl w E H)

/-! ### Lengths -/

theorem OpV0.len (cl : Call) (ho : o.op = .call cl) (hcl : cl.callee = .builtin .len) (x : Operand) (hx : cl.args = #[x]) {t : TypeId} (ht : cl.argTypes = #[t]) {e : TypeId} (hu : P.underlying t = some (.slice e))
    {n : Nat} (hn : lenC (ρ x) = some n) : OpV0 P o ρ H (.v (.int .i64 n)) H := fun w E σ hh hl K hk => by
  have h0 := hl x (by simp [ho, Op.operands, Call.operands, hcl, hx])
  have hv : ∃ a cap, σ x = .slice a n cap := by
    generalize ρ x = c at *
    generalize σ x = u at *
    cases h0 <;> first | (simp [lenC] at hn; done) | (simp only [lenC, Option.some.injEq] at hn; subst hn; exact ⟨_, _, rfl⟩)
  obtain ⟨a, cap, hv⟩ := hv
  have hr : (execOp σ o).run P w = .ok (.value (.int .i64 n)) w := by
    unfold execOp
    simp [ho, resolve, hcl, hx, ht, invoke, builtin, Builtin.len_, hv, run_underlying hu, goInt]
  rw [hr]
  exact hk _ w E hh (.v _ rfl) (Grow0.refl w E H)

/-! ### A part of a value -/

/-- A part of a struct or an array. -/
def partC (P : Program) (t : TypeId) (cs : List C) (off : Nat) : Option C :=
  match P.underlying t, P.info? t with
  | some d, some i => if descAgg d then (if decide (off + i.size ≤ cs.length) then some (.agg ((cs.drop off).take i.size)) else none) else cs[off]?
  | _, _ => none

theorem run_part {E : Env} {w : World} {t : TypeId} {cs : List C} {ys : Array Value} (hll : LL E cs ys.toList) (h1 : ∀ y ∈ ys, y.oneCell' = true) {off : Nat} {c : C} (hc : partC P t cs off = some c) :
    ∃ y, (part t ys off).run P w = .ok y w ∧ L E c y := by
  unfold partC at hc
  split at hc
  · rename_i d i hd hi
    split at hc
    · rename_i hag
      split at hc
      · rename_i hlen
        simp only [decide_eq_true_eq] at hlen
        cases hc
        have hy := hll.1
        simp at hy
        refine ⟨.agg (ys.extract off (off + i.size)), by simp [part, run_isAgg hd, hag, run_sizeOf' hi], .agg _ _ (by simp; omega) ?_ ?_⟩
        · intro k c y hc hy'
          rw [List.getElem?_take] at hc
          split at hc
          · rename_i hk
            rw [List.getElem?_drop] at hc
            rw [Array.getElem?_extract] at hy'
            split at hy'
            · exact hll.2 _ c y hc (by simpa using hy')
            · cases hy'
          · cases hc
        · intro y hym
          obtain ⟨k, hk⟩ := Array.mem_iff_getElem?.1 hym
          rw [Array.getElem?_extract] at hk
          split at hk
          · exact h1 y (Array.mem_of_getElem? hk)
          · cases hk
      · cases hc
    · rename_i hag
      obtain ⟨y, hy, hly⟩ := hll.get hc
      rw [Array.getElem?_toList] at hy
      exact ⟨y, by simp [part, run_isAgg hd, hag, hy], hly⟩
  · cases hc

theorem OpV0.field (t : TypeId) (x : Operand) (f : Nat) (ho : o.op = .field t x f) {fs : Array Field} {fd : Field} (ht : P.underlying t = some (.struct fs)) (hf : fs[f]? = some fd) {cs : List C} (hx : ρ x = .agg cs) {c : C}
    (hc : partC P fd.type cs fd.offset = some c) : OpV0 P o ρ H c H := fun w E σ hh hl K hk => by
  have h0 := hl x (by simp [ho, Op.operands])
  rw [hx] at h0
  obtain ⟨ys, hy, hll, h1⟩ : ∃ ys, σ x = .agg ys ∧ LL E cs ys.toList ∧ ∀ y ∈ ys, y.oneCell' = true := by
    generalize σ x = u at *
    cases h0 with
    | agg _ ys h1 h2 h3 => exact ⟨ys, rfl, ⟨by simpa using h1, fun i c y e1 e2 => h2 i c y e1 (by simpa using e2)⟩, h3⟩
  obtain ⟨y, hr0, hly⟩ := run_part (w := w) hll h1 hc
  have hr : (execOp σ o).run P w = .ok (.value y) w := by
    unfold execOp
    simp [ho, Instr.field, run_underlying ht, hf, hy, asAgg, hr0]
  rw [hr]
  exact hk _ w E hh hly (Grow0.refl w E H)

theorem OpV0.indexArray (t : TypeId) (x y : Operand) (ho : o.op = .index t x y) {n : Nat} {e : TypeId} {i : TypeInfo} (ht : P.underlying t = some (.array n e)) (hi : P.info? e = some i) {cs : List C} (hx : ρ x = .agg cs)
    {k : IntKind} {j : Int} (hy : ρ y = .v (.int k j)) (h0 : 0 ≤ j) (h1 : j < n) {c : C} (hc : partC P e cs (j.toNat * i.size) = some c) : OpV0 P o ρ H c H := fun w E σ hh hl K hk => by
  have hlx := hl x (by simp [ho, Op.operands])
  have hly := hl y (by simp [ho, Op.operands])
  rw [hx] at hlx
  rw [hy] at hly
  obtain ⟨ys, hyx, hll, hone⟩ : ∃ ys, σ x = .agg ys ∧ LL E cs ys.toList ∧ ∀ y ∈ ys, y.oneCell' = true := by
    generalize σ x = u at *
    cases hlx with
    | agg _ ys h1 h2 h3 => exact ⟨ys, rfl, ⟨by simpa using h1, fun i c y e1 e2 => h2 i c y e1 (by simpa using e2)⟩, h3⟩
  have hyv : σ y = .int k j := by generalize σ y = u at *; cases hly; rfl
  obtain ⟨y', hr0, hly'⟩ := run_part (w := w) hll hone hc
  have hr : (execOp σ o).run P w = .ok (.value y') w := by
    unfold execOp
    simp [ho, Instr.index, asIntOf, hyv, run_underlying ht, hyx, h0, h1, run_sizeOf' hi, hr0]
  rw [hr]
  exact hk _ w E hh hly' (Grow0.refl w E H)

end
end Go.Ab
