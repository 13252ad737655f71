/- Maps: their entries stand in the heap; what is done to them. -/
import Derived.Test.YtbndjpkncgfpiaaAbS
import Derived.Carry
import Derived.MapKept
import Derived.WideKeyRuns
namespace Go.Ab
set_option linter.unusedVariables false
set_option linter.unusedSectionVars false

theorem run_getMap {P : Program} {w : World} {r : Nat} {es : Array MapEntry} {clock : Nat} (hb : w.heap[r]? = some (.map es clock)) : (getObj r).run P w = .ok (.map es clock) w := by
  simp [getObj, Sem.run, hb]
theorem run_setMap {P : Program} {w : World} {r : Nat} {es : Array MapEntry} {clock : Nat} (o : Obj) (hb : w.heap[r]? = some (.map es clock)) : (setObj r o).run P w = .ok () { w with heap := w.heap.setIfInBounds r o } := by
  simp [setObj, Sem.run, hb]
theorem run_newMap {P : Program} (t : TypeId) (w : World) : (Instr.makeMap t none).run P w = .ok (.map (some w.heap.size)) (w.alloc (.map #[] 0)) := rfl
theorem alloc_new (w : World) (o : Obj) : (w.alloc o).heap[w.heap.size]? = some o ∧ ∀ r', r' < w.heap.size → (w.alloc o).heap[r']? = w.heap[r']? := by
  have e : (w.alloc o).heap = w.heap.push o := rfl
  rw [e]
  exact ⟨by simp, fun r' h => by simp [Array.getElem?_push, Nat.ne_of_lt h]⟩

/-! ### Keys, and a map's entries as a list -/

/-- Keys of a type: how each stands as a value. -/
structure KeyT (P : Program) (kt : TypeId) {κ : Type} [DecidableEq κ] (enc : κ → Value) : Prop where
  check : ∀ (w : World) (em : Bool) (k : κ), (Instr.checkKey em 10000 kt (enc k)).run P w = .ok () w
  find : ∀ (w : World) (k : κ) (l : List (κ × Value)) (n : Nat), (Instr.findKey kt (enc k) (l.mapIdx fun i kv => ⟨enc kv.1, kv.2, i + n⟩)).run P w = .ok ((l.findIdx? fun kv => decide (kv.1 = k)).bind fun i => (l[i]?).map fun kv => (i, kv.2)) w
  bits : ∀ k : κ, Instr.sameBits 10000 (enc k) (enc k) = true

section
variable {κ : Type} [DecidableEq κ]

def entE (enc : κ → Value) (l : List (κ × Value)) : Array MapEntry := (l.mapIdx fun i kv => ⟨enc kv.1, kv.2, i⟩).toArray

/-- Where a key stands. -/
def findV {υ : Type} (l : List (κ × υ)) (k : κ) : Option Nat := l.findIdx? fun kv => decide (kv.1 = k)
def putV {υ : Type} (l : List (κ × υ)) (k : κ) (v : υ) : List (κ × υ) := match findV l k with
  | some i => l.set i (k, v)
  | none => l ++ [(k, v)]

theorem entE_size (enc : κ → Value) (l : List (κ × Value)) : (entE enc l).size = l.length := by simp [entE]
theorem entE_get (enc : κ → Value) (l : List (κ × Value)) (i : Nat) : (entE enc l)[i]? = (l[i]?).map fun kv => ⟨enc kv.1, kv.2, i⟩ := by
  simp only [entE, List.getElem?_toArray, List.getElem?_mapIdx]
theorem entE_push (enc : κ → Value) (l : List (κ × Value)) (k : κ) (v : Value) : (entE enc l).push ⟨enc k, v, l.length⟩ = entE enc (l ++ [(k, v)]) := by
  apply Array.toList_inj.1
  simp [entE, List.mapIdx_append]
theorem entE_set (enc : κ → Value) (l : List (κ × Value)) (i : Nat) (k : κ) (v : Value) (f : MapEntry → MapEntry) (hf : ∀ kv, l[i]? = some kv → f ⟨enc kv.1, kv.2, i⟩ = ⟨enc k, v, i⟩) : (entE enc l).modify i f = entE enc (l.set i (k, v)) := by
  apply Array.ext_getElem?
  intro j
  rw [Array.getElem?_modify, entE_get, entE_get, List.getElem?_set]
  by_cases e : i = j
  · subst e
    rw [if_pos rfl, if_pos rfl]
    cases h : l[i]? with
    | none => rw [if_neg (by rw [List.getElem?_eq_none_iff] at h; omega)]; rfl
    | some kv => rw [if_pos (List.getElem?_eq_some_iff.1 h).1]; simp [hf kv h]
  · rw [if_neg e, if_neg e]

theorem findV_some {υ : Type} {l : List (κ × υ)} {k : κ} {i : Nat} (h : findV l k = some i) : ∃ v, l[i]? = some (k, v) := by
  unfold findV at h
  rw [List.findIdx?_eq_some_iff_getElem] at h
  obtain ⟨h1, h2, _⟩ := h
  simp only [decide_eq_true_eq] at h2
  exact ⟨l[i].2, by rw [List.getElem?_eq_getElem h1, ← h2]⟩

section
variable {P : Program} {o : Oper} {ρ : Operand → C} {H : Heap}

theorem map_at {w : World} {E : Env} {id b k : Nat} {es : Array MapEntry} (hh : HRel w E H) (hob : H[id]? = some (obM b es k)) : w.heap[b]? = some (.map es k) := (hh.gro.lop id _ _ [] hob rfl ⟨rfl, rfl⟩).1.1

theorem map_cell {E : Env} {b : Nat} {y : Value} (h : L E (.v (.map (some b))) y) : y = .map (some b) := by cases h; rfl

/-- A map's entries turn. -/
theorem map_turn {w : World} {E : Env} {id b k k' : Nat} {es es' : Array MapEntry} (hh : HRel w E H) (hob : H[id]? = some (obM b es k)) :
    HRel { w with heap := w.heap.setIfInBounds b (.map es' k') } E (H.set id (obM b es' k')) ∧ Grow w E H { w with heap := w.heap.setIfInBounds b (.map es' k') } E (H.set id (obM b es' k')) := by
  have := hh.setObj (r' := .map es' k') hob rfl rfl
  exact this

theorem OpVR.makeMap (t : TypeId) (ho : o.op = .makeMap t none) {R : C → Heap → Prop} (hR : ∀ b, R (.v (.map (some b))) (H ++ [obM b #[] 0])) : OpVR P o ρ H R := fun w E σ hh hl hc K hk => by
  have hr : (execOp σ o).run P w = .ok (.value (.map (some w.heap.size))) (w.alloc (.map #[] 0)) := by
    unfold execOp
    simp [ho, run_newMap]
  rw [hr]
  obtain ⟨h1, h2⟩ := alloc_new w (.map #[] 0)
  obtain ⟨E1, h3, g⟩ := hh.newObj (w := w.alloc (.map #[] 0)) (l := w.heap.size) (r := .map #[] 0) (t := []) rfl h2 rfl rfl rfl (by simp) h1 (Nat.le_refl _) LL.nil
  exact hk _ _ _ _ E1 (hR _) h3 (.v _ rfl) g

variable {kt et : TypeId} {enc : κ → Value}

theorem OpV.lookup (t : TypeId) (x y : Operand) (ho : o.op = .lookup t x y false) (ht : P.underlying t = some (.map kt et)) (hk : KeyT P kt enc) {id b : Nat} {l : List (κ × Value)} (hob : H[id]? = some (obM b (entE enc l) l.length)) (hx : ρ x = .v (.map (some b)))
    (k : κ) (hy : ∀ E u, L E (ρ y) u → u = enc k) {i : TypeInfo} {z : Value} (hi : P.info? et = some i) (hz : i.zero = some z) {c : C} (hc : ∀ E, L E c (((findV l k).bind fun i => (l[i]?).map (·.2)).getD z)) : OpV P o ρ H c H := fun w E σ hh hl K hq => by
  have h1 := map_cell (hx ▸ hl x (by simp [ho, Op.operands]))
  have h2 := hy E _ (hl y (by simp [ho, Op.operands]))
  have hb := map_at hh hob
  have hf := hk.find w k l 0
  have hr : (execOp σ o).run P w = .ok (.value (((findV l k).bind fun i => (l[i]?).map (·.2)).getD z)) w := by
    unfold execOp
    simp only [ho, h1, h2, Instr.lookup, Sem.run_bind, run_underlying ht, Result.andThen_ok, run_getMap hb, Sem.run_pure, hk.check]
    have e : (Instr.findKey kt (enc k) (entE enc l).toList).run P w = .ok ((findV l k).bind fun i => (l[i]?).map fun kv => (i, kv.2)) w := by
      simpa [entE, findV] using hf
    rw [e]
    simp only [Result.andThen_ok]
    cases hfv : findV l k with
    | none => simp [run_zeroValue' hi hz]
    | some i =>
      obtain ⟨v, hv⟩ := findV_some hfv
      simp [hv]
  rw [hr]
  exact hq _ w E hh (hc E) (Grow.refl w E H)

theorem run_keyStays {w : World} {k : κ} (hk : KeyT P kt enc) (old : Value) (h : old = enc k) : (Instr.keyThatStays old (enc k)).run P w = .ok (enc k) w := by
  subst h
  unfold Instr.keyThatStays
  rw [if_pos (hk.bits k)]
  rfl

theorem OpV.mapUpdate (t : TypeId) (m x y : Operand) (ho : o.op = .mapUpdate t m x y ∨ o.op = .insert t m x y) (ht : P.underlying t = some (.map kt et)) (hk : KeyT P kt enc) {id b : Nat} {l : List (κ × Value)} (hob : H[id]? = some (obM b (entE enc l) l.length)) (hm : ρ m = .v (.map (some b)))
    (k : κ) (hx : ∀ E u, L E (ρ x) u → u = enc k) (v : Value) (hy : ∀ E u, L E (ρ y) u → u = v) : OpV P o ρ H .un (H.set id (obM b (entE enc (putV l k v)) (putV l k v).length)) := fun w E σ hh hl K hq => by
  have hmem : m ∈ o.op.operands ∧ x ∈ o.op.operands ∧ y ∈ o.op.operands := by rcases ho with ho | ho <;> simp [ho, Op.operands]
  have h1 := map_cell (hm ▸ hl m hmem.1)
  have h2 := hx E _ (hl x hmem.2.1)
  have h3 := hy E _ (hl y hmem.2.2)
  have hb := map_at hh hob
  have e : (Instr.findKey kt (enc k) (entE enc l).toList).run P w = .ok ((findV l k).bind fun i => (l[i]?).map fun kv => (i, kv.2)) w := by
    simpa [entE, findV] using hk.find w k l 0
  have hr : (execOp σ o).run P w = .ok .skip { w with heap := w.heap.setIfInBounds b (.map (entE enc (putV l k v)) (putV l k v).length) } := by
    have key : (Instr.mapUpdate t (.map (some b)) (enc k) v).run P w = .ok () { w with heap := w.heap.setIfInBounds b (.map (entE enc (putV l k v)) (putV l k v).length) } := by
      simp only [Instr.mapUpdate, Sem.run_bind, run_underlying ht, Result.andThen_ok, run_getMap hb, hk.check, e]
      cases hfv : findV l k with
      | none =>
        simp only [Option.bind_none, run_setMap _ hb]
        rw [entE_push]
        simp [putV, hfv]
      | some i =>
        obtain ⟨v0, hv⟩ := findV_some hfv
        simp only [Option.bind_some, hv, Option.map_some, Sem.run_bind, entE_get]
        rw [run_keyStays hk _ (by simp)]
        simp only [Result.andThen_ok, run_setMap _ hb]
        rw [entE_set enc l i k v (fun e => { key := enc k, val := v, born := e.born }) (fun kv hkv => rfl)]
        simp [putV, hfv]
    unfold execOp
    rcases ho with ho | ho <;> simp [ho, h1, h2, h3, key]
  rw [hr]
  obtain ⟨hR, g⟩ := map_turn (es' := entE enc (putV l k v)) (k' := (putV l k v).length) hh hob
  exact hq _ _ E hR .un g

/-- Where an entry stands when it has been asked for. -/
def atV {υ : Type} (l : List (κ × υ)) (k : κ) : Nat := (findV l k).getD l.length
def ensV {υ : Type} (l : List (κ × υ)) (k : κ) (z : υ) : List (κ × υ) := match findV l k with
  | some _ => l
  | none => l ++ [(k, z)]

theorem OpV.mapEntry (t : TypeId) (m x : Operand) (ho : o.op = .mapEntry t m x) (ht : P.underlying t = some (.map kt et)) (hk : KeyT P kt enc) {id b : Nat} {l : List (κ × Value)} (hob : H[id]? = some (obM b (entE enc l) l.length)) (hm : ρ m = .v (.map (some b)))
    (k : κ) (hx : ∀ E u, L E (ρ x) u → u = enc k) {i : TypeInfo} {z : Value} (hi : P.info? et = some i) (hz : i.zero = some z) :
    OpV P o ρ H (.tup [.junk, .v (.int .i64 (atV l k : Int))]) (H.set id (obM b (entE enc (ensV l k z)) (ensV l k z).length)) := fun w E σ hh hl K hq => by
  have h1 := map_cell (hm ▸ hl m (by simp [ho, Op.operands]))
  have h2 := hx E _ (hl x (by simp [ho, Op.operands]))
  have hb := map_at hh hob
  have e : (Instr.findKey kt (enc k) (entE enc l).toList).run P w = .ok ((findV l k).bind fun i => (l[i]?).map fun kv => (i, kv.2)) w := by
    simpa [entE, findV] using hk.find w k l 0
  have hr : ∃ v, (execOp σ o).run P w = .ok (.value (.tuple #[v, .int .i64 (atV l k : Int)])) { w with heap := w.heap.setIfInBounds b (.map (entE enc (ensV l k z)) (ensV l k z).length) } := by
    unfold execOp
    simp only [ho, h1, h2, Instr.mapEntry, Sem.run_bind, run_underlying ht, Result.andThen_ok, run_getMap hb, hk.check, e]
    cases hfv : findV l k with
    | none =>
      simp only [Option.bind_none, Sem.run_bind, run_zeroValue' hi hz, Result.andThen_ok, run_setMap _ hb]
      rw [entE_push]
      exact ⟨z, by simp [ensV, atV, hfv, goInt]⟩
    | some i =>
      obtain ⟨v0, hv⟩ := findV_some hfv
      simp only [Option.bind_some, hv, Option.map_some, Sem.run_bind, entE_get]
      rw [run_keyStays hk _ (by simp)]
      simp only [Result.andThen_ok, run_setMap _ hb]
      rw [entE_set enc l i k v0 (fun e => { key := enc k, val := e.val, born := e.born }) (fun kv hkv => by rw [hv] at hkv; cases hkv; rfl)]
      have : l.set i (k, v0) = l := by
        apply List.ext_getElem?
        intro j
        rw [List.getElem?_set]
        split
        · rename_i e2
          subst e2
          rw [if_pos (List.getElem?_eq_some_iff.1 hv).1, hv]
        · rfl
      rw [this]
      exact ⟨v0, by simp [ensV, atV, hfv, goInt]⟩
  obtain ⟨v, hr⟩ := hr
  rw [hr]
  obtain ⟨hR, g⟩ := map_turn (es' := entE enc (ensV l k z)) (k' := (ensV l k z).length) hh hob
  refine hq _ _ E hR (.tup _ _ rfl fun j c y e1 e2 => ?_) g
  match j, e1, e2 with
  | 0, e1, e2 => cases e1; exact .junk _
  | 1, e1, e2 => cases e1; cases e2; exact .v _ rfl

theorem find_born (enc : κ → Value) (l : List (κ × Value)) (i : Nat) (hi : i < l.length) : (entE enc l).findIdx? (fun e => (e.born : Int) == (i : Int)) = some i := by
  rw [Array.findIdx?_eq_some_iff_getElem]
  refine ⟨by rw [entE_size]; exact hi, ?_, ?_⟩
  · have := entE_get enc l i
    rw [List.getElem?_eq_getElem hi, Array.getElem?_eq_getElem (by rw [entE_size]; exact hi)] at this
    simp only [Option.map_some, Option.some.injEq] at this
    rw [this]
    simp
  · intro j hj
    have hjl : j < l.length := by omega
    have := entE_get enc l j
    rw [List.getElem?_eq_getElem hjl, Array.getElem?_eq_getElem (by rw [entE_size]; exact hjl)] at this
    simp only [Option.map_some, Option.some.injEq] at this
    rw [this]
    simp
    omega

theorem OpV.entryStore (t : TypeId) (m x y : Operand) (ho : o.op = .entryStore t m x y) {id b : Nat} {l : List (κ × Value)} (hob : H[id]? = some (obM b (entE enc l) l.length)) (hm : ρ m = .v (.map (some b))) {i : Nat} (hx : ρ x = .v (.int .i64 (i : Int))) (hi : i < l.length)
    (v : Value) (hy : ∀ E u, L E (ρ y) u → u = v) : OpV P o ρ H .un (H.set id (obM b (entE enc (l.set i (l[i].1, v))) (l.set i (l[i].1, v)).length)) := fun w E σ hh hl K hq => by
  have h1 := map_cell (hm ▸ hl m (by simp [ho, Op.operands]))
  have h2 := val_v (hx ▸ hl x (by simp [ho, Op.operands]))
  have h3 := hy E _ (hl y (by simp [ho, Op.operands]))
  have hb := map_at hh hob
  have hr : (execOp σ o).run P w = .ok .skip { w with heap := w.heap.setIfInBounds b (.map (entE enc (l.set i (l[i].1, v))) (l.set i (l[i].1, v)).length) } := by
    unfold execOp
    have hi0 : (asInt (.int .i64 (i : Int))).run P w = .ok (i : Int) w := rfl
    simp only [ho, h1, h2, h3, Instr.entryStore, Sem.run_bind, Result.andThen_ok, run_getMap hb, hi0, find_born enc l i hi, Sem.run_pure, run_setMap _ hb]
    rw [entE_set enc l i l[i].1 v (fun e => { key := e.key, val := v, born := e.born }) (fun kv hkv => by rw [List.getElem?_eq_getElem hi] at hkv; cases hkv; rfl)]
    simp
  rw [hr]
  obtain ⟨hR, g⟩ := map_turn (es' := entE enc (l.set i (l[i].1, v))) (k' := (l.set i (l[i].1, v)).length) hh hob
  exact hq _ _ E hR .un g

end
end

/-! ### Keys that are numbers, and keys that are two numbers -/

section
variable {P : Program} {kt : TypeId}

theorem findAsking_run {κ : Type} [DecidableEq κ] {enc : κ → Value} (heq : ∀ (w : World) (a b : κ), (Op.equal kt (enc a) (enc b)).run P w = .ok (decide (a = b)) w) (w : World) (k : κ) : ∀ (l : List (κ × Value)) (n j : Nat),
    (Instr.findAsking kt (enc k) (l.mapIdx fun i kv => ⟨enc kv.1, kv.2, i + n⟩) j).run P w = .ok ((l.findIdx? fun kv => decide (kv.1 = k)).bind fun i => (l[i]?).map fun kv => (i + j, kv.2)) w
  | [], n, j => by simp [Instr.findAsking]
  | kv :: l, n, j => by
    have ih := findAsking_run heq w k l (n + 1) (j + 1)
    rw [List.mapIdx_cons]
    unfold Instr.findAsking
    simp only [Sem.run_bind, heq, Result.andThen_ok]
    by_cases e : k = kv.1
    · rw [if_pos (by simpa using e)]
      simp [List.findIdx?_cons, e]
    · rw [if_neg (by simpa using e)]
      have e2 : (l.mapIdx fun i kv => (⟨enc kv.1, kv.2, i + 1 + n⟩ : MapEntry)) = l.mapIdx fun i kv => ⟨enc kv.1, kv.2, i + (n + 1)⟩ := by
        congr 1
        funext i kv
        congr 1
        omega
      rw [e2, ih, List.findIdx?_cons, if_neg (by simpa using fun h => e h.symm)]
      congr 1
      cases hf : l.findIdx? fun kv => decide (kv.1 = k) with
      | none => rfl
      | some i =>
        simp only [Option.map_some, Option.bind_some, List.getElem?_cons_succ]
        cases l[i]? with
        | none => rfl
        | some v => simp; omega

theorem findNow_run {d : TypeDesc} {κ : Type} [DecidableEq κ] {enc : κ → Value} (heq : ∀ (a b : κ), Instr.sameNow d (enc a) (enc b) = some (decide (a = b))) (k : κ) : ∀ (l : List (κ × Value)) (n j : Nat),
    Instr.findNow d (enc k) (l.mapIdx fun i kv => ⟨enc kv.1, kv.2, i + n⟩) j = some ((l.findIdx? fun kv => decide (kv.1 = k)).bind fun i => (l[i]?).map fun kv => (i + j, kv.2))
  | [], n, j => by simp [Instr.findNow]
  | kv :: l, n, j => by
    have ih := findNow_run heq k l (n + 1) (j + 1)
    rw [List.mapIdx_cons]
    unfold Instr.findNow
    simp only [heq]
    by_cases e : k = kv.1
    · simp [List.findIdx?_cons, e]
    · have e2 : (l.mapIdx fun i kv => (⟨enc kv.1, kv.2, i + 1 + n⟩ : MapEntry)) = l.mapIdx fun i kv => ⟨enc kv.1, kv.2, i + (n + 1)⟩ := by
        congr 1
        funext i kv
        congr 1
        omega
      rw [decide_eq_false e]
      dsimp only
      rw [e2, ih, List.findIdx?_cons, if_neg (by simpa using fun h => e h.symm)]
      congr 1
      cases hf : l.findIdx? fun kv => decide (kv.1 = k) with
      | none => rfl
      | some i =>
        simp only [Option.map_some, Option.bind_some, List.getElem?_cons_succ]
        cases l[i]? with
        | none => rfl
        | some v => simp; omega

abbrev encI64 (n : Int) : Value := .int .i64 n
abbrev encII (k : Int × Int) : Value := .agg #[.int .i64 k.1, .int .i64 k.2]

theorem KeyT.int (hu : P.underlying kt = some (.int .i64)) : KeyT P kt encI64 where
  check w em k := by
    show (Instr.checkKey em (9999 + 1) kt _).run P w = _
    unfold Instr.checkKey
    simp [run_underlying hu]
  find w k l n := by
    have := findNow_run (d := .int .i64) (enc := encI64) (fun a b => by simp [Instr.sameNow]; rfl) k l n 0
    simp only [Nat.add_zero] at this
    simp [Instr.findKey, run_underlying hu, this]
  bits k := by simp [Instr.sameBits]

theorem KeyT.two {f g : Field} (hu : P.underlying kt = some (.struct #[f, g])) (f1 : f.offset = 0) (f2 : f.name ≠ "_") (f3 : P.underlying f.type = some (.int .i64)) (g1 : g.offset = 1) (g2 : g.name ≠ "_") (g3 : P.underlying g.type = some (.int .i64)) (hheld : heldB P 9 kt = true)
    (he : ∀ a b : Int × Int, eqC P 9 kt (.agg [.v (.int .i64 a.1), .v (.int .i64 a.2)]) (.agg [.v (.int .i64 b.1), .v (.int .i64 b.2)]) = some (a.1 == b.1 && (a.2 == b.2 && true))) : KeyT P kt encII := by
  have hL : ∀ k : Int × Int, L ⟨0, fun _ _ => 0, fun _ _ => 0, fun _ _ => none, fun _ _ => none⟩ (.agg [.v (.int .i64 k.1), .v (.int .i64 k.2)]) (encII k) := fun k => .agg _ _ rfl (fun i c y e1 e2 => by
      match i, e1, e2 with
      | 0, e1, e2 => cases e1; cases e2; exact .v _ rfl
      | 1, e1, e2 => cases e1; cases e2; exact .v _ rfl) (by simp [Value.oneCell'])
  have heq : ∀ (w : World) (a b : Int × Int), (Op.equal kt (encII a) (encII b)).run P w = .ok (decide (a = b)) w := fun w a b => by
    have := eqC_spec (d' := 10000) 9 w hheld (by decide) (hL a) (hL b) (he a b)
    show (Op.equalIn 10000 kt _ _).run P w = _
    rw [this]
    congr 1
    obtain ⟨a1, a2⟩ := a
    obtain ⟨b1, b2⟩ := b
    rw [Bool.eq_iff_iff]
    simp
  refine ⟨fun w em k => ?_, fun w k l n => ?_, fun k => ?_⟩
  · show (Instr.checkKey em (9998 + 1 + 1) kt _).run P w = _
    rw [Instr.checkKey]
    have c1 : ∀ (fd : Field) (n : Int), P.underlying fd.type = some (.int .i64) → (Instr.checkKey em (9998 + 1) fd.type (.int .i64 n)).run P w = .ok () w := fun fd n h => by
      rw [Instr.checkKey]
      simp [run_underlying h]
    have p1 : (part f.type #[.int .i64 k.1, .int .i64 k.2] f.offset).run P w = .ok (.int .i64 k.1) w := by
      simp [part, isAgg, run_underlying f3, f1]
    have p2 : (part g.type #[.int .i64 k.1, .int .i64 k.2] g.offset).run P w = .ok (.int .i64 k.2) w := by
      simp [part, isAgg, run_underlying g3, g1]
    simp [run_underlying hu, f2, g2, p1, p2, c1 f _ f3, c1 g _ g3]
  · rw [run_findKey_eq w (by rw [hu])]
    have := findAsking_run heq w k l n 0
    simp only [Nat.add_zero] at this
    exact this
  · show Instr.sameBits (9999 + 1) _ _ = true
    simp [Instr.sameBits]

end
end Go.Ab
