/- What is handed in, as abstract cells: a reading of data gives a value of a plain type, and its cells. -/
import Derived.Test.YtbndjpkncgfpiaaAbN
import Derived.SizedLaws
import Derived.ProofKit
import Derived.Carry
namespace Go.Ab
set_option linter.unusedVariables false

/-- All that lies in a world, as what never changes. -/
def E0 (w : World) : Env :=
  { n := 0, β := fun _ _ => 0, κ := fun _ _ => 0, St := fun b o => match w.cell? ⟨b, o, none⟩ with | some u => if u.oneCell' then some u else none | none => none }

theorem E0_St {w : World} {b o : Nat} {u : Value} : (E0 w).St b o = some u ↔ w.cell? ⟨b, o, none⟩ = some u ∧ u.oneCell' = true := by
  unfold E0
  dsimp only
  cases h : w.cell? ⟨b, o, none⟩ with
  | none => simp
  | some v =>
    dsimp only
    split
    · rename_i h1
      constructor
      · intro e; cases e; exact ⟨rfl, h1⟩
      · rintro ⟨e, _⟩; exact e
    · rename_i h1
      constructor
      · intro e; cases e
      · rintro ⟨e, h2⟩; cases e; exact absurd h2 h1

theorem HRel_E0 (w : World) : HRel w (E0 w) [] where
  base := ⟨rfl, by simp, by simp [getB], fun b o u h => E0_St.1 h, by simp [getB], by simp, by simp⟩
  gro := ⟨by simp, by simp, fun id b ⟨ob, _, h, _⟩ => by simp at h, fun _ _ b ⟨ob, _, h, _⟩ => by simp at h, by simp, by simp, by simp, fun _ _ b ⟨ob, _, _, h, _⟩ => by simp at h⟩

def fits (P : Program) {H : Type} (t : TypeId) (d : DataW H) : Prop := (d.weights P t).all (· ≤ reachBytes) = true

/-- **A type's data are values of a plain type.** -/
def Opens (P : Program) (t : TypeId) {α : Type} (enc : α → List C) (wf : α → Prop) : Prop :=
  ∀ {H : Type} (eH : TypeId × Value → H) (w : World) (fuel : Nat) (cs : List Value) (d : DataW H) (ps : List MemPlace),
    DataW.trod eH P w 0 (fun _ => true) true fuel t cs = some (d, ps) → fits P t d → ∃ x, wf x ∧ LL (E0 w) (enc x) cs ∧ ∀ u ∈ cs, u.oneCell' = true

section
variable {P : Program} {t : TypeId}



theorem Opens.int {k : IntKind} (ht : P.underlying t = some (.int k)) : Opens P t (fun n : Int => [.v (.int k n)]) (fun n => (Lit.int k n).wf = true) := by
  intro H eH w fuel cs d ps h _
  cases fuel with
  | zero => cases h
  | succ fuel =>
    rcases cs with _ | ⟨v, _ | ⟨v2, r⟩⟩
    · simp [DataW.trod, ht] at h
    · cases v <;> simp [DataW.trod, ht] at h
      obtain ⟨⟨rfl, hw⟩, _⟩ := h
      exact ⟨_, hw, .one (.v _ rfl), by intro u hu; simp at hu; subst hu; rfl⟩
    · simp [DataW.trod, ht] at h

theorem Opens.bool (ht : P.underlying t = some .bool) : Opens P t (fun b : Bool => [.v (.bool b)]) (fun _ => True) := by
  intro H eH w fuel cs d ps h _
  cases fuel with
  | zero => cases h
  | succ fuel =>
    rcases cs with _ | ⟨v, _ | ⟨v2, r⟩⟩
    · simp [DataW.trod, ht] at h
    · cases v <;> simp [DataW.trod, ht] at h
      exact ⟨_, trivial, .one (.v _ rfl), by intro u hu; simp at hu; subst hu; rfl⟩
    · simp [DataW.trod, ht] at h

theorem Opens.string (ht : P.underlying t = some .string) : Opens P t (fun s : ByteArray => [.v (.string s)]) (fun s => s.size ≤ reachBytes) := by
  intro H eH w fuel cs d ps h hf
  cases fuel with
  | zero => cases h
  | succ fuel =>
    rcases cs with _ | ⟨v, _ | ⟨v2, r⟩⟩
    · simp [DataW.trod, ht] at h
    · cases v <;> simp [DataW.trod, ht] at h
      obtain ⟨_, rfl, _⟩ := h
      refine ⟨_, ?_, .one (.v _ rfl), by intro u hu; simp at hu; subst hu; rfl⟩
      simpa [fits, DataW.weights] using hf
    · simp [DataW.trod, ht] at h

theorem cells_St {w : World} {a : Addr} (ha : a.spot = none) {n : Nat} {cs : List Value} (h : w.cells? 0 a n = some cs) : cs.length = n ∧ ∀ (j : Nat) u, cs[j]? = some u → w.cell? ⟨a.block, a.off + j, none⟩ = some u := by
  unfold World.cells? at h
  rw [if_pos (Nat.zero_le _)] at h
  have key : ∀ (m k : Nat) (cs : List Value), ((List.range' k m).mapM fun i => w.cell? (a.add i)) = some cs → cs.length = m ∧ ∀ (j : Nat) u, cs[j]? = some u → w.cell? (a.add (k + j)) = some u := by
    intro m
    induction m with
    | zero => intro k cs h; simp at h; subst h; simp
    | succ m ih =>
      intro k cs h
      rw [List.range'_succ, List.mapM_cons] at h
      cases h1 : w.cell? (a.add k) with
      | none => rw [h1] at h; cases h
      | some u0 =>
        rw [h1] at h
        cases h2 : ((List.range' (k + 1) m).mapM fun i => w.cell? (a.add i)) with
        | none => rw [h2] at h; cases h
        | some r =>
          rw [h2] at h
          cases h
          obtain ⟨h3, h4⟩ := ih (k + 1) r h2
          refine ⟨by simp [h3], ?_⟩
          intro j u hj
          cases j with
          | zero => simp at hj; subst hj; exact h1
          | succ j => simp at hj; have := h4 j u hj; rw [show k + 1 + j = k + (j + 1) by omega] at this; exact this
  rw [List.range_eq_range'] at h
  obtain ⟨h1, h2⟩ := key n 0 cs h
  refine ⟨h1, fun j u hj => ?_⟩
  have := h2 j u hj
  rw [Nat.zero_add] at this
  unfold Addr.add at this
  split at this
  · rename_i hj0; subst hj0; obtain ⟨b, o, sp⟩ := a; cases ha; exact this
  · exact this

theorem mapM_range {β : Type} {f : Nat → Option β} : ∀ {n k : Nat} {xs : List β}, (List.range' k n).mapM f = some xs → xs.length = n ∧ ∀ (j : Nat) x, xs[j]? = some x → f (k + j) = some x
  | 0, k, xs, h => by simp at h; subst h; simp
  | n + 1, k, xs, h => by
    rw [List.range'_succ, List.mapM_cons] at h
    cases h1 : f k with
    | none => rw [h1] at h; cases h
    | some u0 =>
      rw [h1] at h
      cases h2 : (List.range' (k + 1) n).mapM f with
      | none => rw [h2] at h; cases h
      | some r =>
        rw [h2] at h
        cases h
        obtain ⟨h3, h4⟩ := mapM_range h2
        refine ⟨by simp [h3], ?_⟩
        intro j u hj
        cases j with
        | zero => simp at hj; subst hj; exact h1
        | succ j => simp at hj; have := h4 j u hj; rw [show k + 1 + j = k + (j + 1) by omega] at this; exact this

theorem cell_spot {w : World} {a : Addr} {u : Value} (h : w.cell? a = some u) : a.spot = none := by
  unfold World.cell? at h
  split at h
  · split at h
    · cases h
    · rename_i hs; simpa using hs
  · cases h

theorem cells_spot {w : World} {a : Addr} {n : Nat} {cs : List Value} (h : w.cells? 0 a n = some cs) (hn : 0 < n) : a.spot = none := by
  unfold World.cells? at h
  rw [if_pos (Nat.zero_le _), List.range_eq_range'] at h
  obtain ⟨h1, h2⟩ := mapM_range h
  have h3 : cs[0]? = some cs[0] := by simp [h1, hn]
  have := h2 0 _ h3
  simp [Addr.add] at this
  exact cell_spot this

theorem weightsAll_mem {H : Type} {e : TypeId} : ∀ {l : List (DataW H)} {d : DataW H}, d ∈ l → ∀ n ∈ d.weights P e, n ∈ DataW.weightsAll P e l
  | d0 :: l, d, hd, n, hn => by
    simp only [DataW.weightsAll, List.mem_append]
    rcases List.mem_cons.1 hd with rfl | hd
    · exact .inl hn
    · exact .inr (weightsAll_mem hd n hn)

theorem Opens.slice {e : TypeId} {α : Type} {enc : α → List C} {wf : α → Prop} (ht : P.underlying t = some (.slice e)) {sz by_ : Nat} (hc : P.cellsOf e = sz) (hb : P.bytesOf e = by_) (hpos : 0 < sz) (hsz : ∀ x, (enc x).length = sz)
    (h : Opens P e enc wf) : Opens P t (fun l : List α => [.lst 0 sz (l.map enc)]) (fun l => (∀ x ∈ l, wf x) ∧ l.length * by_ ≤ reachBytes) := by
  subst hc
  subst hb
  intro H eH w fuel cs d ps hr hf
  cases fuel with
  | zero => cases hr
  | succ fuel =>
    rcases cs with _ | ⟨v, _ | ⟨v2, r⟩⟩
    · simp [DataW.trod, ht] at hr
    rotate_left
    · simp [DataW.trod, ht] at hr
    have nil : ∀ a, ∃ x : List α, ((∀ y ∈ x, wf y) ∧ x.length * P.bytesOf e ≤ reachBytes) ∧ LL (E0 w) [.lst 0 (P.cellsOf e) (x.map enc)] [.slice a 0 0] ∧ ∀ u ∈ [Value.slice a 0 0], u.oneCell' = true := fun a =>
      ⟨[], ⟨by simp, by simp⟩, .one (.lnil 0 _ (.inl rfl) a), by intro u hu; simp at hu; subst hu; rfl⟩
    cases v with
    | slice a len cap =>
      cases a with
      | none =>
        by_cases hz : len = 0 ∧ cap = 0
        · obtain ⟨rfl, rfl⟩ := hz
          exact nil none
        · exfalso
          unfold DataW.trod at hr
          rw [ht] at hr
          dsimp only at hr
          split at hr <;> simp_all
      | some a =>
        simp only [DataW.trod, ht] at hr
        split at hr
        rotate_left
        · cases hr
        rename_i hbound
        rw [List.range_eq_range'] at hr
        simp only [List.range_eq_range', if_true] at hr
        cases h1 : (List.range' 0 len).mapM fun i => (w.cells? 0 (a.add (i * P.cellsOf e)) (P.cellsOf e)).bind (DataW.trod eH P w 0 (fun _ => true) true fuel e) with
        | none => rw [h1] at hr; cases hr
        | some elems =>
          rw [h1] at hr
          simp only [Option.bind_some] at hr
          cases h2 : (List.range' 0 (cap - len)).mapM fun j => (w.cells? 0 (a.add ((len + j) * P.cellsOf e)) (P.cellsOf e)).bind (DataW.trod eH P w 0 (fun _ => true) true fuel e) with
          | none => rw [h2] at hr; cases hr
          | some rest =>
            rw [h2] at hr
            simp only [Option.map_some, Option.some.injEq, Prod.mk.injEq] at hr
            obtain ⟨rfl, _⟩ := hr
            obtain ⟨l1, g1⟩ := mapM_range h1
            obtain ⟨l2, g2⟩ := mapM_range h2
            by_cases hz : cap = 0
            · have hl0 : len = 0 := by omega
              subst hz
              subst hl0
              exact nil (some a)
            · have hspot : a.spot = none := by
                by_cases hl : len = 0
                · have h3 : rest[0]? = some (rest[0]'(by omega)) := List.getElem?_eq_getElem _
                  have h4 := g2 0 _ h3
                  subst hl
                  simp only [Nat.zero_add, Nat.zero_mul] at h4
                  cases h5 : w.cells? 0 (a.add 0) (P.cellsOf e) with
                  | none => rw [h5] at h4; cases h4
                  | some cs => have := cells_spot h5 hpos; simpa [Addr.add] using this
                · have h3 : elems[0]? = some (elems[0]'(by omega)) := List.getElem?_eq_getElem _
                  have h4 := g1 0 _ h3
                  simp only [Nat.zero_add, Nat.zero_mul] at h4
                  cases h5 : w.cells? 0 (a.add 0) (P.cellsOf e) with
                  | none => rw [h5] at h4; cases h4
                  | some cs => have := cells_spot h5 hpos; simpa [Addr.add] using this
              have hfw := hf
              simp only [fits, DataW.weights, ht, List.all_cons, List.all_append, Bool.and_eq_true, decide_eq_true_eq] at hfw
              obtain ⟨hf1, hf2, _⟩ := hfw
              have each : ∀ i, i < len → ∃ x, wf x ∧ ∃ cs, w.cells? 0 (a.add (i * P.cellsOf e)) (P.cellsOf e) = some cs ∧ LL (E0 w) (enc x) cs ∧ ∀ u ∈ cs, u.oneCell' = true := by
                intro i hi
                have h3 : elems[i]? = some elems[i] := by simp [l1, hi]
                have h4 := g1 i _ h3
                rw [Nat.zero_add] at h4
                cases h5 : w.cells? 0 (a.add (i * P.cellsOf e)) (P.cellsOf e) with
                | none => rw [h5] at h4; cases h4
                | some cs =>
                  rw [h5] at h4
                  obtain ⟨x, hx1, hx2, hx3⟩ := h eH w fuel cs elems[i].1 elems[i].2 h4 (by
                    unfold fits
                    rw [List.all_eq_true]
                    intro n hn
                    refine List.all_eq_true.1 hf2 n (weightsAll_mem ?_ n hn)
                    simp only [List.mem_map]
                    exact ⟨elems[i], by simp, rfl⟩)
                  exact ⟨x, hx1, cs, rfl, hx2, hx3⟩
              have pick : ∃ xs : List α, xs.length = len ∧ ∀ (i : Nat) x, xs[i]? = some x → wf x ∧ ∃ cs, w.cells? 0 (a.add (i * P.cellsOf e)) (P.cellsOf e) = some cs ∧ LL (E0 w) (enc x) cs ∧ ∀ u ∈ cs, u.oneCell' = true := by
                clear h1 h2 l1 l2 g1 g2 hf hf1 hf2
                clear hbound nil
                induction len with
                | zero => exact ⟨[], rfl, by simp⟩
                | succ n ih =>
                  obtain ⟨xs, hx1, hx2⟩ := ih (fun i hi => each i (by omega))
                  obtain ⟨x, hx3⟩ := each n (by omega)
                  refine ⟨xs ++ [x], by simp [hx1], ?_⟩
                  intro i y hy
                  by_cases hi : i < n
                  · rw [List.getElem?_append_left (by omega)] at hy
                    exact hx2 i y hy
                  · rw [List.getElem?_append_right (by omega)] at hy
                    have : i - xs.length = 0 := by
                      have := (List.getElem?_eq_some_iff.1 hy).1
                      simp at this
                      omega
                    rw [this] at hy
                    cases hy
                    obtain rfl : i = n := by omega
                    exact hx3
              obtain ⟨xs, hx1, hx2⟩ := pick
              refine ⟨xs, ⟨fun x hx => ?_, ?_⟩, .one ?_, by intro u hu; simp at hu; subst hu; rfl⟩
              · obtain ⟨i, hi⟩ := List.mem_iff_getElem?.1 hx
                exact (hx2 i x hi).1
              · rw [hx1]
                have : len * P.bytesOf e ≤ cap * P.bytesOf e := Nat.mul_le_mul_right _ hbound.2.1
                simp [l1, l2] at hf1
                have e1 : len + (cap - len) = cap := by omega
                rw [e1] at hf1
                omega
              · obtain ⟨b, off, sp⟩ := a
                cases hspot
                have cell : ∀ i r k c, (xs.map enc)[i]? = some r → r[k]? = some c → ∃ u, (E0 w).St b (off + i * P.cellsOf e + k) = some u ∧ L (E0 w) c u := by
                  intro i r k c hr hc
                  rw [List.getElem?_map] at hr
                  cases hxi : xs[i]? with
                  | none => rw [hxi] at hr; cases hr
                  | some x =>
                    rw [hxi] at hr
                    cases hr
                    obtain ⟨_, cs, e1, e2, e3⟩ := hx2 i x hxi
                    obtain ⟨u, hu, hl⟩ := e2.get hc
                    obtain ⟨_, hcell⟩ := cells_St (a := (⟨b, off, none⟩ : Addr).add (i * P.cellsOf e)) (by unfold Addr.add; split <;> rfl) e1
                    have := hcell k u hu
                    rw [addr_add] at this
                    exact ⟨u, E0_St.2 ⟨this, e3 u (List.mem_of_getElem? hu)⟩, hl⟩
                have hlen : (xs.map enc).length = len := by simp [hx1]
                have := L.lst (E := E0 w) 0 (P.cellsOf e) (xs.map enc) b off cap (fun i k => ((E0 w).St b (off + i * P.cellsOf e + k)).getD undef) (.inl rfl) (by rw [hlen]; exact hbound.2.1) ?_ ?_ ?_
                · rw [hlen] at this; exact this
                · intro r hr
                  obtain ⟨x, _, rfl⟩ := List.mem_map.1 hr
                  exact hsz x
                · intro i r k c h5 h6
                  obtain ⟨u, hu, _⟩ := cell i r k c h5 h6
                  rw [hu]; rfl
                · intro i r k c h5 h6
                  obtain ⟨u, hu, hl⟩ := cell i r k c h5 h6
                  rw [hu]
                  exact hl
    | _ =>
      unfold DataW.trod at hr
      rw [ht] at hr
      simp at hr

/-- The same data by another type. -/
theorem Opens.map {α β : Type} {enc : α → List C} {wf : α → Prop} {enc' : β → List C} {wf' : β → Prop} (h : Opens P t enc wf) (g : α → β) (hg : ∀ a, wf a → wf' (g a) ∧ enc' (g a) = enc a) : Opens P t enc' wf' := by
  intro H eH w fuel cs d ps hr hf
  obtain ⟨x, h1, h2, h3⟩ := h eH w fuel cs d ps hr hf
  exact ⟨g x, (hg x h1).1, by rw [(hg x h1).2]; exact h2, h3⟩

/-- Fields, one behind the other, from a place on. -/
def OpensF (P : Program) (fs : List Field) (off : Nat) {α : Type} (enc : α → List C) (wf : α → Prop) : Prop :=
  ∀ {H : Type} (eH : TypeId × Value → H) (w : World) (fuel : Nat) (cs : List Value) (xs : List (DataW H × List MemPlace)),
    (fs.mapM fun f => DataW.trod eH P w 0 (fun _ => true) true fuel f.type ((cs.drop f.offset).take (P.cellsOf f.type))) = some xs →
    (DataW.weightsEach P (fs.map (·.type)) (xs.map (·.1))).all (· ≤ reachBytes) = true → cs.length = off + (fs.map fun f => P.cellsOf f.type).sum → ∃ x, wf x ∧ LL (E0 w) (enc x) (cs.drop off) ∧ ∀ u ∈ cs.drop off, u.oneCell' = true

theorem OpensF.nil (off : Nat) : OpensF P [] off (fun _ : Unit => []) (fun _ => True) := by
  intro H eH w fuel cs xs _ _ hl
  simp at hl
  rw [List.drop_eq_nil_of_le (by omega)]
  exact ⟨(), trivial, LL.nil, by simp⟩

theorem OpensF.cons {f : Field} {fs : List Field} {off : Nat} {α β : Type} {enc : α → List C} {wf : α → Prop} {enc' : β → List C} {wf' : β → Prop} (ho : f.offset = off) (h : Opens P f.type enc wf) (h' : OpensF P fs (off + P.cellsOf f.type) enc' wf') :
    OpensF P (f :: fs) off (fun x : α × β => enc x.1 ++ enc' x.2) (fun x => wf x.1 ∧ wf' x.2) := by
  intro H eH w fuel cs xs hm hf hl
  rw [List.mapM_cons] at hm
  cases h1 : DataW.trod eH P w 0 (fun _ => true) true fuel f.type ((cs.drop f.offset).take (P.cellsOf f.type)) with
  | none => rw [h1] at hm; cases hm
  | some x1 =>
    rw [h1] at hm
    cases h2 : (fs.mapM fun f => DataW.trod eH P w 0 (fun _ => true) true fuel f.type ((cs.drop f.offset).take (P.cellsOf f.type))) with
    | none => rw [h2] at hm; cases hm
    | some r =>
      rw [h2] at hm
      cases hm
      simp only [List.map_cons, DataW.weightsEach, List.all_append, Bool.and_eq_true] at hf
      obtain ⟨a, a1, a2, a3⟩ := h eH w fuel _ x1.1 x1.2 h1 hf.1
      obtain ⟨b, b1, b2, b3⟩ := h' eH w fuel cs r h2 hf.2 (by simp at hl ⊢; omega)
      rw [ho] at a2 a3
      have e : cs.drop off = (cs.drop off).take (P.cellsOf f.type) ++ cs.drop (off + P.cellsOf f.type) := by
        rw [← List.drop_drop, List.take_append_drop]
      refine ⟨(a, b), ⟨a1, b1⟩, ?_, ?_⟩
      · rw [e]; exact a2.append b2
      · rw [e]
        intro u hu
        rcases List.mem_append.1 hu with hu | hu
        · exact a3 u hu
        · exact b3 u hu

theorem Opens.struct {fs : Array Field} {α : Type} {enc : α → List C} {wf : α → Prop} (ht : P.underlying t = some (.struct fs)) (hc : P.cellsOf t = (fs.toList.map fun f => P.cellsOf f.type).sum) (h : OpensF P fs.toList 0 enc wf) : Opens P t enc wf := by
  intro H eH w fuel cs d ps hr hf
  cases fuel with
  | zero => cases hr
  | succ fuel =>
    unfold DataW.trod at hr
    rw [ht] at hr
    dsimp only at hr
    split at hr
    · rename_i hl
      cases h2 : (fs.toList.mapM fun f => DataW.trod eH P w 0 (fun _ => true) true fuel f.type ((cs.drop f.offset).take (P.cellsOf f.type))) with
      | none => rw [h2] at hr; cases hr
      | some xs =>
        rw [h2] at hr
        cases hr
        obtain ⟨x, h3, h4, h5⟩ := h eH w fuel cs xs h2 (by simpa [fits, DataW.weights, ht] using hf) (by rw [hl, hc]; simp)
        exact ⟨x, h3, by simpa using h4, by simpa using h5⟩
    · cases hr

/-- An argument, as one cell. -/
def OpenArg (P : Program) (t : TypeId) {α : Type} (c : α → C) (wf : α → Prop) : Prop :=
  ∀ {H : Type} (eH : TypeId × Value → H) (w : World) (base : Nat) (v : Value) (d : DataW H) (ps : List MemPlace), Value.okWide P w .any base t v →
    DataW.Trod eH P w 0 (fun _ => true) true t v d ps → fits P t d → ∃ x, wf x ∧ L (E0 w) (c x) v

theorem Opens.argOne {α : Type} {c : α → C} {wf : α → Prop} (h : Opens P t (fun x => [c x]) wf) (hone : ∀ (w : World) base v, Value.okWide P w .any base t v → v.cells = #[v]) : OpenArg P t c wf := by
  intro H eH w base v d ps hv hd hf
  obtain ⟨fuel, hd⟩ := hd
  rw [hone w base v hv] at hd
  obtain ⟨x, h1, h2, _⟩ := h eH w fuel _ d ps hd hf
  exact ⟨x, h1, h2.cons_inv.1⟩

theorem Opens.argInt {k : IntKind} (ht : P.underlying t = some (.int k)) : OpenArg P t (fun n : Int => .v (.int k n)) (fun n => (Lit.int k n).wf = true) :=
  Opens.argOne (c := fun n => .v (.int k n)) (Opens.int ht) fun w base v hv => by obtain ⟨n, rfl⟩ := WideShapes.okWide_int ht hv; rfl
theorem Opens.argBool (ht : P.underlying t = some .bool) : OpenArg P t (fun b : Bool => .v (.bool b)) (fun _ => True) :=
  Opens.argOne (c := fun b => .v (.bool b)) (Opens.bool ht) fun w base v hv => by obtain ⟨n, rfl⟩ := WideShapes.okWide_bool ht hv; rfl
theorem Opens.argString (ht : P.underlying t = some .string) : OpenArg P t (fun s : ByteArray => .v (.string s)) (fun s => s.size ≤ reachBytes) :=
  Opens.argOne (c := fun s => .v (.string s)) (Opens.string ht) fun w base v hv => by obtain ⟨n, rfl⟩ := WideShapes.okWide_string ht hv; rfl
theorem Opens.argSlice {α : Type} {c : α → C} {wf : α → Prop} {e : TypeId} (ht : P.underlying t = some (.slice e)) (h : Opens P t (fun x => [c x]) wf) : OpenArg P t c wf :=
  Opens.argOne h fun w base v hv => by obtain ⟨a, len, cap, rfl⟩ := WideShapes.okWide_slice ht hv; rfl
theorem Opens.argStruct {α : Type} {enc : α → List C} {wf : α → Prop} {fs : Array Field} (ht : P.underlying t = some (.struct fs)) (h : Opens P t enc wf) : OpenArg P t (fun x => .agg (enc x)) wf := by
  intro H eH w base v d ps hv hd hf
  simp only [Value.okWide, ht] at hv
  obtain ⟨cs, rfl, _⟩ := hv
  obtain ⟨fuel, hd⟩ := hd
  obtain ⟨x, h1, h2, h3⟩ := h eH w fuel _ d ps hd hf
  exact ⟨x, h1, .agg _ cs (by simpa [Value.cells] using h2.1) (fun i c y e1 e2 => h2.2 i c y e1 (by simpa [Value.cells] using e2)) (fun u hu => h3 u (by simpa [Value.cells] using hu))⟩

/-- Arguments, one behind the other. -/
def OpenArgs (P : Program) (ts : List TypeId) {α : Type} (c : α → List C) (wf : α → Prop) : Prop :=
  ∀ {H : Type} (eH : TypeId × Value → H) (w : World) (base : Nat) (vs : List Value) (ds : List (DataW H)) (ps : List MemPlace), (∀ (j : Nat) t v, ts[j]? = some t → vs[j]? = some v → Value.okWide P w .any base t v) →
    DataW.TrodAll eH P w 0 (fun _ => true) true ts vs ds ps → (DataW.weightsEach P ts ds).all (· ≤ reachBytes) = true → ∃ x, wf x ∧ LL (E0 w) (c x) vs

theorem OpenArgs.nil : OpenArgs P [] (fun _ : Unit => []) (fun _ => True) := by
  intro H eH w base vs ds ps _ h _
  match vs, ds, h with
  | [], [], _ => exact ⟨(), trivial, LL.nil⟩
theorem OpenArgs.cons {ts : List TypeId} {α β : Type} {c : α → C} {wf : α → Prop} {cs : β → List C} {wf' : β → Prop} (h : OpenArg P t c wf) (h' : OpenArgs P ts cs wf') :
    OpenArgs P (t :: ts) (fun x : α × β => c x.1 :: cs x.2) (fun x => wf x.1 ∧ wf' x.2) := by
  intro H eH w base vs ds ps hv hd hf
  match vs, ds, hd with
  | v :: vs, d :: ds, ⟨p, q, h1, h2, _⟩ =>
    simp only [DataW.weightsEach, List.all_append, Bool.and_eq_true] at hf
    obtain ⟨a, a1, a2⟩ := h eH w base v d p (hv 0 t v rfl rfl) h1 hf.1
    obtain ⟨b, b1, b2⟩ := h' eH w base vs ds q (fun j t' v' e1 e2 => hv (j + 1) t' v' (by simpa using e1) (by simpa using e2)) h2 hf.2
    exact ⟨(a, b), ⟨a1, b1⟩, LL.cons a2 b2⟩

end

/-! ### The end of a statement's proof -/

theorem TrodAll_stays {P : Program} {H : Type} {eH : TypeId × Value → H} (hl : laidOutB P = true) {W W' : World} {sp' : Nat → Bool} : ∀ {ts : List TypeId} {vs : List Value} {ds : List (DataW H)} {ps : List MemPlace},
    ts.all (fun t => P.readableRec t && decide (t < P.types.size)) = true → DataW.TrodAll eH P W 0 (fun _ => true) true ts vs ds ps → (∀ p ∈ ps, W.sameAt W' p) → (∀ p ∈ ps, sp' p.block = true) → DataW.TrodAll eH P W' 0 sp' true ts vs ds ps
  | [], [], [], ps, _, h, _, _ => h
  | t :: ts, v :: vs, d :: ds, ps, hts, ⟨p, q, h1, h2, e⟩, hsame, hs => by
    subst e
    simp only [List.all_cons, Bool.and_eq_true, decide_eq_true_eq] at hts
    exact ⟨p, q, WideElems.Trod_stays hl hts.1.1 hts.1.2 h1 (fun x hx => hsame x (by simp [hx])) (fun x hx => hs x (by simp [hx])), TrodAll_stays hl hts.2 h2 (fun x hx => hsame x (by simp [hx])) (fun x hx => hs x (by simp [hx])), rfl⟩

theorem below_of_Grow {w w' : World} {E E' : Env} (g : Grow w E [] w' E' []) : RowKit.Below w.heap.size w w' :=
  ⟨g.os, g.tape, g.output, g.size, fun k hk => g.frame k hk Owned.none⟩

theorem trodAll_len {P : Program} {H : Type} {eH : TypeId × Value → H} {w : World} {b : Nat} {sp : Nat → Bool} {hd : Bool} : ∀ {ts : List TypeId} {vs : List Value} {ds : List (DataW H)} {ps : List MemPlace}, DataW.TrodAll eH P w b sp hd ts vs ds ps → ds.length = ts.length
  | [], [], [], _, _ => rfl
  | _ :: _, _ :: _, _ :: _, _, ⟨_, _, _, h, _⟩ => by simp [trodAll_len h]

/-- **A law that hands back true, whatever it is handed.** -/
theorem law_close {P : Program} {f : FuncId} {fn : Func} {s : ChangeSpec} {H : Type} {eH : TypeId × Value → H} {W : World} {base : Nat} {args : Array Value} {ds gs : List (DataW H)} {before : List MemPlace} {tb : TypeId} {α : Type} {c : α → List C} {wf : α → Prop}
    (hl : laidOutB P = true) (hts : fn.params.toList.all (fun t => P.readableRec t && decide (t < P.types.size)) = true) (hres : fn.resultTypes = #[tb]) (htb : P.underlying tb = some .bool) (hvars : s.vars = [])
    (hspec : ∀ ds : List (DataW H), ds.length = fn.params.toList.length → s.fn H (ds ++ []) = { results := [.lit (.bool true)], args := ds })
    (hval : ∀ (j : Nat) t v, fn.params[j]? = some t → args[j]? = some v → Value.okWide P W .any base t v)
    (hW : DataW.Whole eH P fn.params.toList s.vars false W args.toList ds gs before)
    (hsz : (DataW.weightsEach P (fn.params.toList ++ s.plain.varTypes P) (ds ++ gs)).all (· ≤ reachBytes) = true)
    (hop : OpenArgs P fn.params.toList c wf) (hs : ∀ x, wf x → SoundAt P f [] (c x) (.v (.bool true)) []) :
    Calls P f args W fun e W' => ∃ v, e = .returned v ∧ s.post eH P fn false true false false W args v W' := by
  have hW' := hW
  obtain ⟨p, q, hA, hV, rfl, hfz, hnd⟩ := hW
  rw [hvars] at hV
  obtain ⟨rfl, rfl⟩ := ChangeShapes.trodVars_none hV
  have hvt : s.plain.varTypes P = [] := by simp [DataSpec.varTypes, ChangeSpec.plain, hvars]
  rw [hvt] at hsz
  simp only [List.append_nil] at hsz
  have hlt := hW'.lt
  obtain ⟨x, hx, hL⟩ := hop eH W base args.toList ds p (fun j t v e1 e2 => hval j t v (by simpa using e1) (by simpa using e2)) hA hsz
  refine (hs x hx W (E0 W) args (HRel_E0 W) hL).mono ?_
  rintro e W' ⟨v, E', rfl, _, hv, g⟩
  have hb := below_of_Grow g
  obtain rfl : v = .bool true := by cases hv; rfl
  have hlen := trodAll_len hA
  have hsp := hspec ds hlen
  refine ⟨_, rfl, ds, [], p ++ [], [], p, [], hW', ?_, ?_, ?_, ?_, fun h => by cases h⟩
  · rw [hsp, hres]
    exact ⟨[], [], RowKit.shut_bool htb _, rfl, rfl⟩
  · rw [hsp]
    exact TrodAll_stays hl hts hA (fun x hx => hb.same (hlt x (by simpa using hx))) (fun x hx => by simpa using hlt x (by simpa using hx))
  · rw [hsp, hvars]
    rfl
  · exact hb.frame _

end Go.Ab
