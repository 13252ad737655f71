/- Structs compared, over an abstract state. -/
import Derived.Test.YtbndjpkncgfpiaaAbE
import Derived.Laws.StructEq
import Derived.Laws.Cover3
namespace Go.Ab
set_option linter.unusedVariables false

def eqFieldsC (P : Program) (eq : TypeId → C → C → Option Bool) (xs ys : List C) : List Field → Option Bool
  | [] => some true
  | f :: fs => if f.name ≠ "_" then
      match partC P f.type xs f.offset, partC P f.type ys f.offset with
      | some a, some b => match eq f.type a b, eqFieldsC P eq xs ys fs with
        | some r, some r' => some (r && r')
        | _, _ => none
      | _, _ => none
    else eqFieldsC P eq xs ys fs

def eqElemsC (P : Program) (eq : C → C → Option Bool) (el : TypeId) (n : Nat) (xs ys : List C) : List Nat → Option Bool
  | [] => some true
  | i :: is => match partC P el xs (i * n), partC P el ys (i * n) with
    | some a, some b => match eq a b, eqElemsC P eq el n xs ys is with
      | some r, some r' => some (r && r')
      | _, _ => none
    | _, _ => none

def eqC (P : Program) : Nat → TypeId → C → C → Option Bool
  | 0, _, _, _ => none
  | d + 1, t, x, y => match P.underlying t, x, y with
    | some (.int _), .v (.int k a), .v (.int k' b) => if k = k' then some (a == b) else none
    | some .bool, .v (.bool a), .v (.bool b) => some (a == b)
    | some .string, .v (.string a), .v (.string b) => match a, b with
      | ⟨⟨a⟩⟩, ⟨⟨b⟩⟩ => some (a == b)
    | some (.struct fs), .agg xs, .agg ys => eqFieldsC P (eqC P d) xs ys fs.toList
    | some (.array len el), .agg xs, .agg ys => match P.info? el with
      | some i => eqElemsC P (eqC P d el) el i.size xs ys (List.range' 0 len)
      | none => none
    | _, _, _ => none

/-- None of the structs in it is of a package that the model stands in for. -/
def heldB (P : Program) : Nat → TypeId → Bool
  | 0, _ => false
  | d + 1, t => match P.underlying t with
    | some (.struct fs) => !P.stoodInHeld t && fs.toList.all fun f => heldB P d f.type
    | some (.array _ el) => heldB P d el
    | _ => true

section
variable {P : Program} {E : Env}

theorem eqFieldsC_spec {d : Nat} (ih : ∀ {d'} {t : TypeId} {x y : C} {u v : Value} {b : Bool} (w : World), heldB P d t = true → d ≤ d' → L E x u → L E y v → eqC P d t x y = some b → (Op.equalIn d' t u v).run P w = .ok b w) {d' : Nat} (hd : d ≤ d')
    {xs ys : List C} {us vs : Array Value} (hx : LL E xs us.toList) (hy : LL E ys vs.toList) (h1 : ∀ u ∈ us, u.oneCell' = true) (h2 : ∀ u ∈ vs, u.oneCell' = true) (w : World) :
    ∀ (fs : List Field) (b : Bool), (fs.all fun f => heldB P d f.type) = true → eqFieldsC P (eqC P d) xs ys fs = some b → (Op.eqFields d' us vs fs).run P w = .ok b w
  | [], b, _, h => by simp [eqFieldsC] at h; subst h; simp [Op.eqFields]
  | f :: fs, b, hall, h => by
    simp only [List.all_cons, Bool.and_eq_true] at hall
    unfold eqFieldsC at h
    unfold Op.eqFields
    by_cases hn : f.name ≠ "_"
    · rw [if_pos hn] at h ⊢
      split at h
      · rename_i a a' ha ha'
        split at h
        · rename_i r r' hr hr'
          cases h
          obtain ⟨u, hu, hlu⟩ := run_part (w := w) hx h1 ha
          obtain ⟨v, hv, hlv⟩ := run_part (w := w) hy h2 ha'
          have h5 := ih w hall.1 hd hlu hlv hr
          have h6 := eqFieldsC_spec ih hd hx hy h1 h2 w fs r' hall.2 hr'
          simp only [Sem.run_bind, hu, hv, h5, Result.andThen_ok]
          cases r
          · simp
          · simpa using h6
        · cases h
      · cases h
    · rw [if_neg hn] at h ⊢
      exact eqFieldsC_spec ih hd hx hy h1 h2 w fs b hall.2 h

theorem eqArr_spec {d : Nat} (ih : ∀ {d'} {t : TypeId} {x y : C} {u v : Value} {b : Bool} (w : World), heldB P d t = true → d ≤ d' → L E x u → L E y v → eqC P d t x y = some b → (Op.equalIn d' t u v).run P w = .ok b w) {d' : Nat} (hd : d ≤ d')
    {xs ys : List C} {us vs : Array Value} (hx : LL E xs us.toList) (hy : LL E ys vs.toList) (h1 : ∀ u ∈ us, u.oneCell' = true) (h2 : ∀ u ∈ vs, u.oneCell' = true) (w : World) {t el : TypeId} {len : Nat} {i : TypeInfo}
    (ht : P.underlying t = some (.array len el)) (hi : P.info? el = some i) (hh : heldB P d el = true) {b : Bool} (h : eqElemsC P (eqC P d el) el i.size xs ys (List.range' 0 len) = some b) :
    (Op.equalIn (d' + 1) t (.agg us) (.agg vs)).run P w = .ok b w := by
  simp only [Op.equalIn, Sem.run_bind, run_underlying ht, Result.andThen_ok, run_sizeOf' hi, Std.Legacy.Range.forIn_eq_forIn_range', Std.Legacy.Range.size, Nat.sub_zero, Nat.add_sub_cancel, Nat.div_one]
  revert h
  generalize List.range' 0 len = is
  intro h
  induction is generalizing b with
  | nil => simp [eqElemsC] at h; subst h; simp
  | cons j is ih2 =>
    unfold eqElemsC at h
    split at h
    · rename_i a a' ha ha'
      split at h
      · rename_i r r' hr hr'
        cases h
        obtain ⟨u, hu, hlu⟩ := run_part (w := w) hx h1 ha
        obtain ⟨v, hv, hlv⟩ := run_part (w := w) hy h2 ha'
        have h5 := ih w hh hd hlu hlv hr
        have h6 := ih2 hr'
        simp only [List.forIn_cons, Sem.run_bind, Sem.run_ite, hu, hv, h5, Result.andThen_ok]
        cases r
        · simp
        · simpa using h6
      · cases h
    · cases h

theorem eqC_spec : ∀ (d : Nat) {d' : Nat} {t : TypeId} {x y : C} {u v : Value} {b : Bool} (w : World), heldB P d t = true → d ≤ d' → L E x u → L E y v → eqC P d t x y = some b → (Op.equalIn d' t u v).run P w = .ok b w
  | 0, d', t, x, y, u, v, b, w, _, hd, hx, hy, h => by simp [eqC] at h
  | d + 1, d', t, x, y, u, v, b, w, hheld, hd, hx, hy, h => by
    obtain ⟨d'', rfl⟩ : ∃ d'', d' = d'' + 1 := ⟨d' - 1, by omega⟩
    unfold eqC at h
    split at h
    · rename_i k0 k a k' b' hu
      cases hx; cases hy
      split at h
      · rename_i e; subst e; cases h; exact run_equalIn_int w d'' t _ _ _ _ hu
      · cases h
    · rename_i a b' hu
      cases hx; cases hy; cases h
      exact run_equalIn_bool' w d'' t _ _ hu
    · rename_i a b' hu
      obtain ⟨⟨a⟩⟩ := a
      obtain ⟨⟨b'⟩⟩ := b'
      cases hx; cases hy; cases h
      have e : ((⟨⟨a⟩⟩ : ByteArray) == ⟨⟨b'⟩⟩) = (a == b') := by
        show ((⟨a⟩ : Array UInt8) == ⟨b'⟩) = (a == b')
        simp
      simp [Op.equalIn, run_underlying hu, e]
    · rename_i fs xs ys hu
      have hf : P.fieldsOf t = fs := by unfold Program.fieldsOf; rw [hu]
      unfold heldB at hheld
      rw [hu] at hheld
      simp only [Bool.and_eq_true, Bool.not_eq_true'] at hheld
      cases hx with
      | agg _ us a1 a2 a3 =>
        cases hy with
        | agg _ vs b1 b2 b3 =>
          rw [run_equalIn_struct w d'' t us vs (by rw [hf]; exact hu) hheld.1, hf]
          exact eqFieldsC_spec (d := d) (fun {d'} {t} {x} {y} {u} {v} {b} w h0 h1 h2 h3 h4 => eqC_spec d w h0 h1 h2 h3 h4) (by omega) ⟨by simpa using a1, fun i c y e1 e2 => a2 i c y e1 (by simpa using e2)⟩
            ⟨by simpa using b1, fun i c y e1 e2 => b2 i c y e1 (by simpa using e2)⟩ a3 b3 w fs.toList b hheld.2 h
    · rename_i len el xs ys hu
      unfold heldB at hheld
      rw [hu] at hheld
      dsimp only at hheld
      split at h
      · rename_i i hi
        cases hx with
        | agg _ us a1 a2 a3 =>
          cases hy with
          | agg _ vs b1 b2 b3 =>
            exact eqArr_spec (d := d) (fun {d'} {t} {x} {y} {u} {v} {b} w h0 h1 h2 h3 h4 => eqC_spec d w h0 h1 h2 h3 h4) (by omega) ⟨by simpa using a1, fun i c y e1 e2 => a2 i c y e1 (by simpa using e2)⟩
              ⟨by simpa using b1, fun i c y e1 e2 => b2 i c y e1 (by simpa using e2)⟩ a3 b3 w hu hi hheld h
      · cases h
    · cases h

theorem OpV0.eqStruct {o : Oper} {ρ : Operand → C} {H : Heap} (op : BinOp) (t t' : TypeId) (x y : Operand) (ho : o.op = .binOp op t x y t') (hop : op = .eql ∨ op = .neq) (hm : P.eqGuardType P.depth t = false) (hheld : heldB P 9 t = true) {xs ys : List C} (hx : ρ x = .agg xs) (hy : ρ y = .agg ys)
    {b : Bool} (hb : eqC P 9 t (.agg xs) (.agg ys) = some b) : OpV0 P o ρ H (.v (.bool (if op = .eql then b else !b))) H := fun w E σ hh hl K hk => by
  have h0 := hl x (by simp [ho, Op.operands])
  have h1 := hl y (by simp [ho, Op.operands])
  rw [hx] at h0
  rw [hy] at h1
  have h2 := eqC_spec (E := E) (d' := 10000) 9 w hheld (by decide) h0 h1 hb
  obtain ⟨us, hu⟩ : ∃ us, σ x = .agg us := by generalize σ x = u at *; cases h0; exact ⟨_, rfl⟩
  obtain ⟨vs, hv⟩ : ∃ vs, σ y = .agg vs := by generalize σ y = u at *; cases h1; exact ⟨_, rfl⟩
  rw [hu, hv] at h2
  have hr : (execOp σ o).run P w = .ok (.value (.bool (if op = .eql then b else !b))) w := by
    unfold execOp
    simp only [ho, hu, hv, Sem.run_bind, run_eqGuard_agg w op t x y us vs hm, Result.andThen_ok]
    rcases hop with rfl | rfl
    · rw [run_eql_struct, h2]; rfl
    · rw [run_neq_struct, h2]; rfl
  rw [hr]
  exact hk _ w E hh (.v _ rfl) (Grow0.refl w E H)

/-- A slice that is held against nil. -/
theorem OpVc.nilCmp {o : Oper} {ρ : Operand → C} {H : Heap} (op : BinOp) (t t' : TypeId) (x : Operand) (ho : o.op = .binOp op t x (.const (.slice none 0 0)) t') (hop : op = .eql ∨ op = .neq) {e : TypeId} (ht : P.underlying t = some (.slice e))
    (hx : (∃ fo sz rows, ρ x = .lst fo sz rows ∧ rows ≠ []) ∨ ∃ id hops sz lo len full, ρ x = .sl id hops sz lo len full) : OpVc P o ρ H (.v (.bool (if op = .eql then false else true))) H := fun w E σ hh hl hc K hk => by
  have h0 := hl x (by simp [ho, Op.operands])
  obtain ⟨b, off, len, cap, hv⟩ : ∃ b off len cap, σ x = .slice (some ⟨b, off, none⟩) len cap := by
    generalize σ x = u at *
    rcases hx with ⟨fo, sz, rows, h1, h2⟩ | ⟨id, hops, sz, lo, len, full, h1⟩
    · rw [h1] at h0
      cases h0 with
      | lst o sz rows b off cap us ho hc hsz hst hL => exact ⟨_, _, _, _, rfl⟩
      | lnil o sz ho a => exact absurd rfl h2
    · rw [h1] at h0
      cases h0
      exact ⟨_, _, _, _, rfl⟩
  have hr : (execOp σ o).run P w = .ok (.value (.bool (if op = .eql then false else true))) w := by
    unfold execOp
    rcases hop with rfl | rfl
    · simp [ho, hv, hc, eqGuard, binOp, run_equal_slice_nil w t e _ len cap ht]
    · simp [ho, hv, hc, eqGuard, binOp, run_equal_slice_nil w t e _ len cap ht]
  rw [hr]
  exact hk _ w E hh (.v _ rfl) (Grow.refl w E H)

end
end Go.Ab
