/- Layer 10 (calls), plain: what the program keeps of a trace. -/
import Derived.Test.YtbndjpkncgfpiaaApi
import Derived.Test.YtbndjpkncgfpiaaAbT
namespace Go.Cal
open Go.Ab Go.Hy
set_option linter.unusedVariables false
set_option linter.unusedSectionVars false

section
variable {κ : Type} [DecidableEq κ]

/-- A map to numbers, as its entries stand. -/
def vI (l : List (κ × Int)) : List (κ × Value) := l.map fun kv => (kv.1, encI64 kv.2)
def getI (l : List (κ × Int)) (k : κ) : Int := ((findV l k).bind fun i => (l[i]?).map (·.2)).getD 0

theorem findV_vI (l : List (κ × Int)) (k : κ) : findV (vI l) k = findV l k := by
  unfold findV vI
  rw [List.findIdx?_map]
  rfl
theorem vI_len (l : List (κ × Int)) : (vI l).length = l.length := by simp [vI]
theorem putV_vI (l : List (κ × Int)) (k : κ) (v : Int) : putV (vI l) k (encI64 v) = vI (putV l k v) := by
  unfold putV
  rw [findV_vI]
  cases findV l k with
  | none => simp [vI]
  | some i => simp [vI, List.map_set]
theorem get_vI (l : List (κ × Int)) (k : κ) : (((findV (vI l) k).bind fun i => ((vI l)[i]?).map (·.2)).getD (encI64 0)) = encI64 (getI l k) := by
  rw [findV_vI]
  unfold getI
  cases findV l k with
  | none => rfl
  | some i =>
    simp only [Option.bind_some, vI, List.getElem?_map]
    cases l[i]? with
    | none => rfl
    | some v => rfl

theorem ens_put {υ : Type} (l : List (κ × υ)) (k : κ) (z v : υ) : ∃ h : atV l k < (ensV l k z).length, (ensV l k z).set (atV l k) ((ensV l k z)[atV l k].1, v) = putV l k v := by
  unfold atV ensV putV
  cases hf : findV l k with
  | none =>
    refine ⟨by simp, ?_⟩
    simp
  | some i =>
    obtain ⟨u, hu⟩ := findV_some hf
    have hl := (List.getElem?_eq_some_iff.1 hu).1
    refine ⟨hl, ?_⟩
    have : l[i] = (k, u) := by rw [List.getElem?_eq_getElem hl] at hu; exact Option.some.inj hu
    show l.set i (l[i].1, v) = _
    rw [this]

theorem findV_put {l : List (κ × Int)} {k k' : κ} {v : Int} : getI (putV l k v) k' = if k' = k then v else getI l k' := by
  unfold putV getI
  cases hf : findV l k with
  | none =>
    unfold findV at hf ⊢
    rw [List.findIdx?_eq_none_iff] at hf
    rw [List.findIdx?_append]
    by_cases e : k' = k
    · subst e
      have : l.findIdx? (fun kv => decide (kv.1 = k')) = none := by rw [List.findIdx?_eq_none_iff]; exact hf
      simp [this]
    · rw [if_neg e]
      cases h2 : l.findIdx? (fun kv => decide (kv.1 = k')) with
      | none => simp [Ne.symm e]
      | some i =>
        rw [List.findIdx?_eq_some_iff_getElem] at h2
        obtain ⟨h3, _⟩ := h2
        simp [List.getElem?_append_left h3]
  | some i =>
    obtain ⟨u, hu⟩ := findV_some hf
    have hl := (List.getElem?_eq_some_iff.1 hu).1
    have hli : l[i] = (k, u) := by rw [List.getElem?_eq_getElem hl] at hu; exact Option.some.inj hu
    have same : findV (l.set i (k, v)) k' = findV l k' := by
      unfold findV
      have e1 : (l.set i (k, v)).map Prod.fst = l.map Prod.fst := by
        rw [List.map_set]
        apply List.ext_getElem?
        intro j
        rw [List.getElem?_set]
        split
        · rename_i e2
          subst e2
          rw [if_pos (by simpa using hl), List.getElem?_map, hu]
          rfl
        · rfl
      have e2 : ∀ m : List (κ × Int), m.findIdx? (fun kv => decide (kv.1 = k')) = (m.map Prod.fst).findIdx? (fun x => decide (x = k')) := fun m => by rw [List.findIdx?_map]; rfl
      rw [e2, e2, e1]
    dsimp only
    rw [same]
    by_cases e : k' = k
    · subst e
      rw [hf, if_pos rfl]
      simp [hl]
    · rw [if_neg e]
      cases h2 : findV l k' with
      | none => rfl
      | some j =>
        obtain ⟨u2, hu2⟩ := findV_some h2
        have : i ≠ j := by rintro rfl; rw [hu] at hu2; cases hu2; exact e rfl
        simp [List.getElem?_set, this]

end

/-! ### The book -/

structure Bk where
  l : List Cal
  of_ : List ((Int × Int) × Int)
  busy : List (Int × Int)

def six0 : Six := ⟨0, 0, 0, 0, 0, 0⟩
def ans0 : Ans := ⟨0, 0, 0, 0, 0, 0, 0, six0⟩
def newCal (e : Eve) (i : Int) : Cal := ⟨e.thread, e.op, i, -1, -1, ans0⟩

/-- What an event does to the call that it is of. -/
def markC (e : Eve) (i : Int) (c : Cal) : Cal :=
  let c1 : Cal := if e.point then ⟨c.thread, c.op, c.from_, i, c.to_, c.answer⟩ else c
  if e.done then ⟨c1.thread, c1.op, c1.from_, c1.point, i, e.answer⟩ else c1

def goV (b : Bk) (i : Int) (e : Eve) (k : Int) : Option Bk :=
  if k = 0 ∨ getI b.busy e.thread ≠ k then none
  else some ⟨b.l.modify (k - 1).toNat (markC e i), b.of_, if e.done then putV b.busy e.thread 0 else b.busy⟩

def beginV (b : Bk) (i : Int) (e : Eve) : Bk :=
  let n : Int := b.l.length + 1
  ⟨b.l ++ [newCal e i], putV b.of_ (e.thread, e.op) n, putV b.busy e.thread n⟩

def eventV (b : Bk) (i : Int) (e : Eve) : Option Bk :=
  if e.begin_ then
    if 0 < getI b.of_ (e.thread, e.op) ∨ 0 < getI b.busy e.thread then none else goV (beginV b i e) i e (b.l.length + 1)
  else goV b i e (getI b.of_ (e.thread, e.op))

/-- What is kept names calls. -/
def Bk.ok (b : Bk) : Prop := (∀ k, 0 ≤ getI b.of_ k ∧ getI b.of_ k ≤ b.l.length) ∧ ∀ t, 0 ≤ getI b.busy t ∧ getI b.busy t ≤ b.l.length

theorem go_ok {b b' : Bk} {i k : Int} {e : Eve} (hb : b.ok) (h : goV b i e k = some b') : b'.ok ∧ b'.l.length = b.l.length := by
  unfold goV at h
  split at h
  · cases h
  · cases h
    refine ⟨⟨?_, ?_⟩, ?_⟩
    · simpa using hb.1
    · intro t
      have := hb.2 t
      simp only [List.length_modify]
      split
      · rw [findV_put]
        split
        · omega
        · exact this
      · exact this
    · simp

theorem begin_ok {b : Bk} {i : Int} {e : Eve} (hb : b.ok) : (beginV b i e).ok := by
  refine ⟨fun k => ?_, fun t => ?_⟩
  · have := hb.1 k
    simp only [beginV, findV_put, List.length_append, List.length_singleton]
    split <;> omega
  · have := hb.2 t
    simp only [beginV, findV_put, List.length_append, List.length_singleton]
    split <;> omega

theorem event_ok {b b' : Bk} {i : Int} {e : Eve} (hb : b.ok) (h : eventV b i e = some b') : b'.ok := by
  unfold eventV at h
  split at h
  · split at h
    · cases h
    · exact (go_ok (begin_ok hb) h).1
  · exact (go_ok hb h).1

end Go.Cal
