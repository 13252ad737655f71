/- Abstract states, what it means that code takes one to another, and the rules for code. -/
import Derived.Test.YtbndjpkncgfpiaaAb1
import Derived.LoopN
import Derived.LoopNIn
import Derived.ControlIn
import Derived.CallsIn
import Derived.TacticsIn
import Derived.OrdersIn
import Derived.Scope
import Derived.RangeFuncLeaves
import Derived.RangeFuncRecord
namespace Go.Ab
set_option linter.unusedVariables false

structure S where
  tmps : List C
  H : Heap

/-- A block that an object owns. -/
def Owned0 (E : Env) (H : Heap) (b : Nat) : Prop := ∃ id hops x, getB H id hops = some x ∧ E.β id hops = b

/-- What a step does to the world, from a state over 'H' to one over 'H'', where no growing row grows. -/
structure Grow0 (w : World) (E : Env) (H : Heap) (w' : World) (E' : Env) (H' : Heap) : Prop where
  le : E.le E'
  keepG : ∀ (id k : Nat), id < E.n → E'.G id k = E.G id k
  os : w'.os = w.os
  tape : w'.tape = w.tape
  output : w'.output = w.output
  size : w.heap.size ≤ w'.heap.size
  frame : ∀ k, k < w.heap.size → ¬ Owned0 E H k → w'.heap[k]? = w.heap[k]?
  newSt : ∀ b o u, E'.St b o = some u → E.St b o = some u ∨ w.heap.size ≤ b ∨ Owned0 E H b
  own : ∀ b, Owned0 E' H' b → w.heap.size ≤ b ∨ Owned0 E H b

theorem Grow0.refl (w : World) (E : Env) (H : Heap) : Grow0 w E H w E H :=
  ⟨Env.le.refl E, fun _ _ _ => rfl, rfl, rfl, rfl, Nat.le_refl _, fun _ _ _ => rfl, fun _ _ _ h => .inl h, fun _ h => .inr h⟩

theorem Grow0.trans {w w1 w2 : World} {E E1 E2 : Env} {H H1 H2 : Heap} (g : Grow0 w E H w1 E1 H1) (h : Grow0 w1 E1 H1 w2 E2 H2) : Grow0 w E H w2 E2 H2 where
  le := g.le.trans h.le
  keepG id k hi := (h.keepG id k (Nat.lt_of_lt_of_le hi g.le.n)).trans (g.keepG id k hi)
  os := h.os.trans g.os
  tape := h.tape.trans g.tape
  output := h.output.trans g.output
  size := Nat.le_trans g.size h.size
  frame k hk ho := (h.frame k (Nat.lt_of_lt_of_le hk g.size) fun hc => (g.own k hc).elim (fun hs => by omega) ho).trans (g.frame k hk ho)
  newSt b o u hu := by
    rcases h.newSt b o u hu with h1 | h1 | h1
    · exact g.newSt b o u h1
    · exact .inr (.inl (Nat.le_trans g.size h1))
    · rcases g.own b h1 with h2 | h2
      · exact .inr (.inl h2)
      · exact .inr (.inr h2)
  own b hb := by
    rcases h.own b hb with h1 | h1
    · exact .inl (Nat.le_trans g.size h1)
    · exact g.own b h1

/-! ### Growing rows -/

/-- The block that a growing row has room in. -/
def GroOwn (E : Env) (H : Heap) (id b : Nat) : Prop := ∃ ob cap, H[id]? = some ob ∧ ob.kind = 4 ∧ E.G id ob.rows.length = some (.slice (some ⟨b, 0, none⟩) ob.rows.length cap) ∧ cap ≠ ob.rows.length

/-- The block that the record of a loop over a function lies in (with the cells that its temporaries stand for): it stands as a growing row of one element (frozen) that never grows. -/
def RecOwn (H : Heap) (id b : Nat) : Prop := ∃ ob o t, H[id]? = some ob ∧ ob.kind = 4 ∧ (ob.rows = [.rc o :: t] ∧ ob.fz = 1) ∧ ob.ty = b

/-- What lies in such a block: a loop's record, a map. -/
def foreign : Obj → Bool
  | .loop _ => true
  | .map .. => true
  | _ => false
/-- The values that the record's temporaries are. -/
def recT : Obj → List Value
  | .loop r => r.tmps.toList
  | _ => []

theorem HRel0.cellsAt {w : World} {E : Env} {H : Heap} {b : Nat} (h : HRel0 w E H) (ho : Owned0 E H b) : ∃ cur e, w.heap[b]? = some (.cells cur e (0, 0)) := by
  obtain ⟨id, hops, x, hx, rfl⟩ := ho
  have hx' := hx
  unfold getB at hx'
  split at hx'
  · rename_i ob hob
    obtain ⟨cur, e, h1, _⟩ := (h.blk id ob hops x.1 x.2 hob hx).blk
    exact ⟨cur, e, h1⟩
  · cases hx'

structure Gro (w : World) (E : Env) (H : Heap) : Prop where
  val : ∀ (id : Nat) (ob : Ob), H[id]? = some ob → ob.kind = 4 → ∃ a cap, E.G id ob.rows.length = some (.slice a ob.rows.length cap) ∧ (cap = ob.rows.length ∨ ∃ b, a = some ⟨b, 0, none⟩ ∧ ob.rows.length ≤ cap)
  blk : ∀ (id b : Nat) (ob : Ob), GroOwn E H id b → H[id]? = some ob → ∃ cur cap, E.G id ob.rows.length = some (.slice (some ⟨b, 0, none⟩) ob.rows.length cap) ∧ w.heap[b]? = some (.cells cur ob.ty (0, 0)) ∧ cur.size = cap * ob.sz
  sep : ∀ id b, GroOwn E H id b → ¬ Owned0 E H b
  inj : ∀ id id' b, GroOwn E H id b → GroOwn E H id' b → id = id'
  st : ∀ (id b : Nat) (ob : Ob) o u, GroOwn E H id b → H[id]? = some ob → E.St b o = some u → o < ob.rows.length * ob.sz
  top : ∀ (id : Nat) (ob : Ob) (k : Nat) u, H[id]? = some ob → ob.kind = 4 → E.G id k = some u → k ≤ ob.rows.length
  lop : ∀ (id : Nat) (ob : Ob) (o : Obj) (t : List C), H[id]? = some ob → ob.kind = 4 → (ob.rows = [.rc o :: t] ∧ ob.fz = 1) → (w.heap[ob.ty]? = some o ∧ foreign o = true) ∧ LL E t (recT o)
  rinj : ∀ id id' b, RecOwn H id b → RecOwn H id' b → id = id'

/-- Growing rows are the same in both. -/
def Keep4 (H H' : Heap) : Prop := ∀ (id : Nat) (ob : Ob), ob.kind = 4 → (H'[id]? = some ob ↔ H[id]? = some ob)

theorem Keep4.refl (H : Heap) : Keep4 H H := fun _ _ _ => Iff.rfl

/-- **The heap of objects, growing rows too, stands for the world's memory.** -/
structure HRel (w : World) (E : Env) (H : Heap) : Prop where
  base : HRel0 w E H
  gro : Gro w E H

theorem HRel.n {w : World} {E : Env} {H : Heap} (h : HRel w E H) : E.n = H.length := h.base.n

/-- A block that an object or a growing row owns. -/
def Owned (E : Env) (H : Heap) (b : Nat) : Prop := Owned0 E H b ∨ ∃ id, (GroOwn E H id b ∨ RecOwn H id b)

/-- What a step does to the world, from a state over 'H' to one over 'H''. -/
structure Grow (w : World) (E : Env) (H : Heap) (w' : World) (E' : Env) (H' : Heap) : Prop where
  le : E.le E'
  os : w'.os = w.os
  tape : w'.tape = w.tape
  output : w'.output = w.output
  size : w.heap.size ≤ w'.heap.size
  frame : ∀ k, k < w.heap.size → ¬ Owned E H k → w'.heap[k]? = w.heap[k]?
  newSt : ∀ b o u, E'.St b o = some u → E.St b o = some u ∨ w.heap.size ≤ b ∨ Owned E H b
  own : ∀ b, Owned E' H' b → w.heap.size ≤ b ∨ Owned E H b

theorem Grow.refl (w : World) (E : Env) (H : Heap) : Grow w E H w E H :=
  ⟨Env.le.refl E, rfl, rfl, rfl, Nat.le_refl _, fun _ _ _ => rfl, fun _ _ _ h => .inl h, fun _ h => .inr h⟩

theorem Grow.trans {w w1 w2 : World} {E E1 E2 : Env} {H H1 H2 : Heap} (g : Grow w E H w1 E1 H1) (h : Grow w1 E1 H1 w2 E2 H2) : Grow w E H w2 E2 H2 where
  le := g.le.trans h.le
  os := h.os.trans g.os
  tape := h.tape.trans g.tape
  output := h.output.trans g.output
  size := Nat.le_trans g.size h.size
  frame k hk ho := (h.frame k (Nat.lt_of_lt_of_le hk g.size) fun hc => (g.own k hc).elim (fun hs => by omega) ho).trans (g.frame k hk ho)
  newSt b o u hu := by
    rcases h.newSt b o u hu with h1 | h1 | h1
    · exact g.newSt b o u h1
    · exact .inr (.inl (Nat.le_trans g.size h1))
    · rcases g.own b h1 with h2 | h2
      · exact .inr (.inl h2)
      · exact .inr (.inr h2)
  own b hb := by
    rcases h.own b hb with h1 | h1
    · exact .inl (Nat.le_trans g.size h1)
    · exact g.own b h1

/-- A growing row's block is what it was. -/
theorem GroOwn.back {w : World} {E E' : Env} {H H' : Heap} (hg : Gro w E H) (hn : E.n = H.length) (hle : E.le E') (hk : Keep4 H H') {id b : Nat} (h : GroOwn E' H' id b) : GroOwn E H id b := by
  obtain ⟨ob, cap, h1, h2, h3, h4⟩ := h
  have h1' := (hk id ob h2).1 h1
  obtain ⟨a, cap', e1, _⟩ := hg.val id ob h1' h2
  have e2 := hle.G id ob.rows.length _ (by rw [hn]; exact (List.getElem?_eq_some_iff.1 h1').1) e1
  rw [h3] at e2
  cases e2
  exact ⟨ob, cap, h1', h2, e1, h4⟩
theorem GroOwn.forth {E E' : Env} {H H' : Heap} (hn : E.n = H.length) (hle : E.le E') (hk : Keep4 H H') {id b : Nat} (h : GroOwn E H id b) : GroOwn E' H' id b := by
  obtain ⟨ob, cap, h1, h2, h3, h4⟩ := h
  exact ⟨ob, cap, (hk id ob h2).2 h1, h2, hle.G id ob.rows.length _ (by rw [hn]; exact (List.getElem?_eq_some_iff.1 h1).1) h3, h4⟩

theorem RecOwn.back {H H' : Heap} (hk : Keep4 H H') {id b : Nat} (h : RecOwn H' id b) : RecOwn H id b := by
  obtain ⟨ob, r, t, h1, h2, h3⟩ := h
  exact ⟨ob, r, t, (hk id ob h2).1 h1, h2, h3⟩

/-- **A step that leaves growing rows alone.** -/
theorem Gro.step {w w' : World} {E E' : Env} {H H' : Heap} (h : HRel w E H) (g : Grow0 w E H w' E' H') (hk : Keep4 H H') : Gro w' E' H' where
  val id ob hob hkd := by
    have hob' := (hk id ob hkd).1 hob
    obtain ⟨a, cap, e1, e2⟩ := h.gro.val id ob hob' hkd
    exact ⟨a, cap, g.le.G id ob.rows.length _ (by rw [h.n]; exact (List.getElem?_eq_some_iff.1 hob').1) e1, e2⟩
  blk id b ob ho hob := by
    have ho' := ho.back h.gro h.n g.le hk
    obtain ⟨ob2, _, e1, e2, _⟩ := ho
    rw [hob] at e1
    cases e1
    have hob' := (hk id ob e2).1 hob
    obtain ⟨cur, cap, e3, e4, e5⟩ := h.gro.blk id b ob ho' hob'
    refine ⟨cur, cap, g.le.G id ob.rows.length _ (by rw [h.n]; exact (List.getElem?_eq_some_iff.1 hob').1) e3, ?_, e5⟩
    rw [g.frame b (Array.getElem?_eq_some_iff.1 e4).1 (h.gro.sep id b ho')]
    exact e4
  sep id b ho := by
    have ho' := ho.back h.gro h.n g.le hk
    intro hc
    rcases g.own b hc with h1 | h1
    · obtain ⟨ob, _, e1, _⟩ := ho'
      obtain ⟨cur, cap, e3, e4, e5⟩ := h.gro.blk id b ob (ho.back h.gro h.n g.le hk) e1
      have := (Array.getElem?_eq_some_iff.1 e4).1
      omega
    · exact h.gro.sep id b ho' h1
  inj id id' b h1 h2 := h.gro.inj id id' b (h1.back h.gro h.n g.le hk) (h2.back h.gro h.n g.le hk)
  st id b ob o u ho hob hu := by
    have ho' := ho.back h.gro h.n g.le hk
    obtain ⟨ob2, _, e1, e2, _⟩ := ho
    rw [hob] at e1
    cases e1
    have hob' := (hk id ob e2).1 hob
    rcases g.newSt b o u hu with h1 | h1 | h1
    · exact h.gro.st id b ob o u ho' hob' h1
    · obtain ⟨cur, cap, e3, e4, e5⟩ := h.gro.blk id b ob ho' hob'
      have := (Array.getElem?_eq_some_iff.1 e4).1
      omega
    · exact absurd h1 (h.gro.sep id b ho')
  top id ob k u hob hkd hu := by
    have hob' := (hk id ob hkd).1 hob
    rw [g.keepG id k (by rw [h.n]; exact (List.getElem?_eq_some_iff.1 hob').1)] at hu
    exact h.gro.top id ob k u hob' hkd hu
  lop id ob r t hob hkd hr := by
    obtain ⟨⟨h1, hf⟩, hl⟩ := h.gro.lop id ob r t ((hk id ob hkd).1 hob) hkd hr
    refine ⟨⟨?_, hf⟩, hl.mono g.le⟩
    rw [g.frame ob.ty (Array.getElem?_eq_some_iff.1 h1).1 fun hc => by obtain ⟨cur, e, h2⟩ := h.base.cellsAt hc; rw [h1] at h2; cases h2; cases hf]
    exact h1
  rinj id id' b h1 h2 := h.gro.rinj id id' b (h1.back hk) (h2.back hk)

theorem Grow0.up {w w' : World} {E E' : Env} {H H' : Heap} (h : HRel w E H) (g : Grow0 w E H w' E' H') (hk : Keep4 H H') : Grow w E H w' E' H' where
  le := g.le
  os := g.os
  tape := g.tape
  output := g.output
  size := g.size
  frame k h1 h2 := g.frame k h1 fun hc => h2 (.inl hc)
  newSt b o u hu := (g.newSt b o u hu).imp_right fun h => h.imp_right .inl
  own b hb := by
    rcases hb with hb | ⟨id, hb | hb⟩
    · exact (g.own b hb).imp_right .inl
    · exact .inr (.inr ⟨id, .inl (hb.back h.gro h.n g.le hk)⟩)
    · exact .inr (.inr ⟨id, .inr (hb.back hk)⟩)

/-! ### Marks of loops over functions -/

/-- The mark that a loop over a function leaves among the deferred calls. -/
abbrev mkD (D : Nat) : Deferred := { target := .collected D, args := #[] }

/-- The marks name blocks, no two the same, that are held open; all of them lie beyond m. -/
def Marks (m : Nat) (w : World) : List Deferred → Prop
  | [] => m ≤ w.heap.size
  | d :: ds => (∃ D, d = mkD D ∧ m ≤ D ∧ w.heap[D]? = some (.deferred (some [])) ∧ mkD D ∉ ds) ∧ Marks m w ds

theorem Marks.mono {m : Nat} {w w' : World} (hsz : w.heap.size ≤ w'.heap.size) : ∀ {ds : List Deferred}, Marks m w ds → (∀ D, mkD D ∈ ds → w.heap[D]? = some (.deferred (some [])) → w'.heap[D]? = w.heap[D]?) → Marks m w' ds
  | [], h, _ => Nat.le_trans h hsz
  | d :: ds, ⟨⟨D, h1, h2, h3, h4⟩, ht⟩, hk => ⟨⟨D, h1, h2, (hk D (by rw [h1]; exact List.mem_cons_self ..) h3).trans h3, h4⟩, Marks.mono hsz ht fun D' hm hd => hk D' (List.mem_cons_of_mem _ hm) hd⟩

theorem Marks.le {m : Nat} {w : World} : ∀ {ds : List Deferred}, Marks m w ds → m ≤ w.heap.size
  | [], h => h
  | _ :: _, ⟨_, h⟩ => Marks.le h

/-- Such a block is no object's. -/
theorem HRel.free {w : World} {E : Env} {H : Heap} {D : Nat} {ds : Option (List Deferred)} (h : HRel w E H) (hd : w.heap[D]? = some (.deferred ds)) : ¬ Owned E H D := by
  rintro (ho | ⟨id, ⟨ob, cap, hob, h4, hG, hne⟩ | ⟨ob, r, t, hob, h4, hr, rfl⟩⟩)
  · obtain ⟨cur, e, h1⟩ := h.base.cellsAt ho
    rw [hd] at h1
    cases h1
  · obtain ⟨cur, cap', _, h1, _⟩ := h.gro.blk id D ob ⟨ob, cap, hob, h4, hG, hne⟩ hob
    rw [hd] at h1
    cases h1
  · obtain ⟨h1, hf⟩ := (h.gro.lop id ob r t hob h4 hr).1
    rw [hd] at h1
    cases h1
    cases hf

theorem Marks.grow {m : Nat} {w w' : World} {E E' : Env} {H H' : Heap} {ds : List Deferred} (h : Marks m w ds) (hh : HRel w E H) (g : Grow w E H w' E' H') : Marks m w' ds :=
  Marks.mono g.size h fun D _ hD => g.frame D (Array.getElem?_eq_some_iff.1 hD).1 (hh.free hD)

/-- What holds no deferred calls lies as it lay. -/
theorem HRel.cells {w w' : World} {E : Env} {H : Heap} (hk : ∀ (k : Nat) (o : Obj), w.heap[k]? = some o → (∀ ds, o ≠ .deferred ds) → w'.heap[k]? = w.heap[k]?) (h : HRel w E H) : HRel w' E H where
  base := {
    n := h.base.n
    blk := fun id ob hops sz rows e1 e2 =>
      let b := h.base.blk id ob hops sz rows e1 e2
      ⟨b.len, b.row, let ⟨cur, e, h1, h2⟩ := b.blk; ⟨cur, e, (hk _ _ h1 (by simp)).trans h1, h2⟩⟩
    inj := h.base.inj
    stable := fun b o u hu => by
      obtain ⟨h1, h2⟩ := h.base.stable b o u hu
      refine ⟨?_, h2⟩
      unfold World.cell? at h1 ⊢
      split at h1
      · rename_i c t z hc
        rw [hk _ _ hc (by simp), hc]
        exact h1
      · cases h1
    sep := h.base.sep
    ty := fun id ob e1 e2 => let ⟨cur, h1⟩ := h.base.ty id ob e1 e2; ⟨cur, (hk _ _ h1 (by simp)).trans h1⟩
    fz := h.base.fz }
  gro := {
    val := h.gro.val
    blk := fun id b ob e1 e2 => let ⟨cur, cap, h1, h2, h3⟩ := h.gro.blk id b ob e1 e2; ⟨cur, cap, h1, (hk _ _ h2 (by simp)).trans h2, h3⟩
    sep := h.gro.sep
    inj := h.gro.inj
    st := h.gro.st
    top := h.gro.top
    lop := fun id ob r t e1 e2 e3 => let h1 := h.gro.lop id ob r t e1 e2 e3; ⟨⟨(hk _ _ h1.1.1 (by intro ds e; have := h1.1.2; rw [e] at this; cases this)).trans h1.1.1, h1.1.2⟩, h1.2⟩
    rinj := h.gro.rinj }

/-- A state stands for what is there; the first so many objects are the caller's. -/
structure SRel (B m : Nat) (w : World) (E : Env) (s : S) (a : Act) : Prop where
  heap : HRel w E s.H
  tmps : LL E s.tmps a.tmps.toList
  defers : Marks m w a.defers
  base : B ≤ s.H.length

/-- The same, where only the first so many objects must stay where they are. -/
structure Env.leB (B : Nat) (E E' : Env) : Prop where
  β : ∀ id hops, id < B → E'.β id hops = E.β id hops
  κ : ∀ id hops, id < B → E'.κ id hops = E.κ id hops
  St : ∀ b o u, E.St b o = some u → E'.St b o = some u
  G : ∀ id k u, id < B → E.G id k = some u → E'.G id k = some u

theorem Env.leB.refl (B : Nat) (E : Env) : E.leB B E := ⟨fun _ _ _ => rfl, fun _ _ _ => rfl, fun _ _ _ h => h, fun _ _ _ _ h => h⟩
theorem Env.leB.trans {B : Nat} {E E' E'' : Env} (h : E.leB B E') (h' : E'.leB B E'') : E.leB B E'' :=
  ⟨fun id hops hi => (h'.β id hops hi).trans (h.β id hops hi), fun id hops hi => (h'.κ id hops hi).trans (h.κ id hops hi), fun b o u hu => h'.St b o u (h.St b o u hu), fun id k u hi hu => h'.G id k u hi (h.G id k u hi hu)⟩
theorem Env.le.toB {B : Nat} {E E' : Env} (h : E.le E') (hB : B ≤ E.n) : E.leB B E' :=
  ⟨fun id hops hi => h.β id hops (Nat.lt_of_lt_of_le hi hB), fun id hops hi => h.κ id hops (Nat.lt_of_lt_of_le hi hB), h.St, fun id k u hi => h.G id k u (Nat.lt_of_lt_of_le hi hB)⟩

structure GrowB (B : Nat) (w : World) (E : Env) (H : Heap) (w' : World) (E' : Env) (H' : Heap) : Prop where
  le : E.leB B E'
  os : w'.os = w.os
  tape : w'.tape = w.tape
  output : w'.output = w.output
  size : w.heap.size ≤ w'.heap.size
  frame : ∀ k, k < w.heap.size → ¬ Owned E H k → w'.heap[k]? = w.heap[k]?
  newSt : ∀ b o u, E'.St b o = some u → E.St b o = some u ∨ w.heap.size ≤ b ∨ Owned E H b
  own : ∀ b, Owned E' H' b → w.heap.size ≤ b ∨ Owned E H b

theorem Grow.toB {B : Nat} {w w' : World} {E E' : Env} {H H' : Heap} (g : Grow w E H w' E' H') (hB : B ≤ E.n) : GrowB B w E H w' E' H' :=
  ⟨g.le.toB hB, g.os, g.tape, g.output, g.size, g.frame, g.newSt, g.own⟩

theorem GrowB.refl (B : Nat) (w : World) (E : Env) (H : Heap) : GrowB B w E H w E H :=
  ⟨Env.leB.refl B E, rfl, rfl, rfl, Nat.le_refl _, fun _ _ _ => rfl, fun _ _ _ h => .inl h, fun _ h => .inr h⟩

theorem GrowB.trans {B : Nat} {w w1 w2 : World} {E E1 E2 : Env} {H H1 H2 : Heap} (g : GrowB B w E H w1 E1 H1) (h : GrowB B w1 E1 H1 w2 E2 H2) : GrowB B w E H w2 E2 H2 where
  le := g.le.trans h.le
  os := h.os.trans g.os
  tape := h.tape.trans g.tape
  output := h.output.trans g.output
  size := Nat.le_trans g.size h.size
  frame k hk ho := (h.frame k (Nat.lt_of_lt_of_le hk g.size) fun hc => (g.own k hc).elim (fun hs => by omega) ho).trans (g.frame k hk ho)
  newSt b o u hu := by
    rcases h.newSt b o u hu with h1 | h1 | h1
    · exact g.newSt b o u h1
    · exact .inr (.inl (Nat.le_trans g.size h1))
    · rcases g.own b h1 with h2 | h2
      · exact .inr (.inl h2)
      · exact .inr (.inr h2)
  own b hb := by
    rcases h.own b hb with h1 | h1
    · exact .inl (Nat.le_trans g.size h1)
    · exact g.own b h1

/-- Any function, at any depth; a round of a range over a function, or none. -/
def fw (q : Option Nat) : Fence := { Fence.wide with round := q }

/-- A range over a function occurs in it. -/
def ranged : Code → Bool
  | .seq a b => ranged a || ranged b
  | .cond _ a b => ranged a || ranged b
  | .block _ a => ranged a
  | .loop a => ranged a
  | .scope a => ranged a
  | .rangeFunc .. => true
  | _ => false

/-- **Code takes an abstract state to some that are so**, by exits that are so: as a function's own code, and in a round (there without a range over a function). -/
def RunR (P : Program) (B : Nat) (c : Code) (s : S) (R : Exit → S → Prop) : Prop :=
  ∀ (q : Option Nat) (m : Nat) (w : World) (E : Env) (a : Act) (Q : Exit → Act → World → Prop), (ranged c = true → q = none) → SRel B m w E s a →
    (∀ ex s' w' E' a', R ex s' → SRel B m w' E' s' a' → GrowB B w E s.H w' E' s'.H → Q ex a' w') → c.wpIn (fw q) 0 P Q a w

/-- To just this one. -/
abbrev Run (P : Program) (B : Nat) (c : Code) (s : S) (ex : Exit) (s' : S) : Prop := RunR P B c s fun e t => e = ex ∧ t = s'

/-- The same of a loop, within so many rounds. -/
def RunL (P : Program) (B : Nat) (c : Code) (n : Nat) (s : S) (R : Exit → S → Prop) : Prop :=
  ∀ (q : Option Nat) (m : Nat) (w : World) (E : Env) (a : Act) (Q : Exit → Act → World → Prop), (ranged c = true → q = none) → SRel B m w E s a →
    (∀ ex s' w' E' a', R ex s' → SRel B m w' E' s' a' → GrowB B w E s.H w' E' s'.H → Q ex a' w') → Code.roundsIn (fw q) 0 P c Q n a w

/-- A list of operations of a region takes a state to some that are so. -/
def RunOps (P : Program) (B : Nat) (ops : Array Oper) (l : List Oper) (s : S) (R : S → Prop) : Prop :=
  ∀ (q : Option Nat) (m : Nat) (w : World) (E : Env) (a : Act) (Q : Exit → Act → World → Prop), SRel B m w E s a →
    (∀ s' w' E' a', R s' → SRel B m w' E' s' a' → GrowB B w E s.H w' E' s'.H → Q .normal a' w') → wpListIn (fw q) 0 P ops Q l a w

/-- An operation that is wanted takes a state to some that are so. -/
def RunOp (P : Program) (B : Nat) (o : Oper) (s : S) (R : S → Prop) : Prop :=
  ∀ (q : Option Nat) (m : Nat) (w : World) (E : Env) (a : Act) (K : Act → World → Prop) (Q : Exit → Act → World → Prop), SRel B m w E s a →
    (∀ s' w' E' a', R s' → SRel B m w' E' s' a' → GrowB B w E s.H w' E' s'.H → K a' w') → o.wpIn (fw q) 0 P a w K Q

/-- One state may be taken for another one that says less. -/
def Weak (B : Nat) (s s' : S) : Prop :=
  ∀ (m : Nat) (w : World) (E : Env) (a : Act), SRel B m w E s a → ∃ E', SRel B m w E' s' a ∧ GrowB B w E s.H w E' s'.H

theorem roundsIn_le {F : Fence} {k : Nat} {P : Program} {c : Code} {Q : Exit → Act → World → Prop} : ∀ {n m : Nat}, n ≤ m → ∀ {a : Act} {w : World}, Code.roundsIn F k P c Q n a w → Code.roundsIn F k P c Q m a w
  | 0, _, _, _, _, h => (h : False).elim
  | n + 1, 0, hm, _, _, _ => absurd hm (Nat.not_succ_le_zero n)
  | n + 1, m + 1, hm, a, w, h => by
    rw [roundsIn_succ] at h ⊢
    refine wpIn_mono h fun e a1 w1 h1 => ?_
    cases e with
    | normal => exact roundsIn_le (Nat.le_of_succ_le_succ hm) h1
    | _ => exact h1

section scopes
variable {F : Fence} {n : Nat} {P : Program} {b : Frame} {a : Act} {k : List Item} {cs : List Frame} {w : World} {Q : Exit → Act → World → Prop}

theorem stepR_scope {c : Code} : step P (lone (b.atR a (.code (.scope c) :: k)) cs w) = .next (lone (b.atR a (.code c :: .inScope c :: k)) cs w) :=
  step_lone_go (by simp [stepG, stepG.exec, Frame.atR])
theorem stepR_inScope {c : Code} : step P (lone (b.atR a (.inScope c :: k)) cs w) = .next (lone (b.atR a k) cs w) :=
  step_lone_go (by simp [stepG, stepG.exec, Frame.atR])

/-- A scope that the run goes through without a goto. -/
theorem wpIn_scope_straight {c : Code} (h : c.wpIn F n P (Exit.noGoto Q) a w) : (Code.scope c).wpIn F n P Q a w := by
  intro b k cs hro hb hr
  have h0 : (lone (b.atR a (.code (.scope c) :: k)) cs w).fenced P F := fenced_calm hb hr rfl
  obtain ⟨e, a₁, w₁, hq, harr⟩ := h b (.inScope c :: k) cs hro hb hr
  cases e with
  | normal => exact ⟨.normal, a₁, w₁, hq, .head h0 stepR_scope (StepsIn.trans harr (.one (fenced_calm hb hr rfl) stepR_inScope))⟩
  | exit id =>
    have hx : exitTo id (.inScope c :: k) = exitTo id k := by simp [exitTo]
    exact ⟨.exit id, a₁, w₁, hq, fun k' hk => .head h0 stepR_scope (harr.1 k' (by rw [hx]; exact hk)),
      fun hr' hk => let ⟨k₁, h1, h2⟩ := harr.2 hr' (by rw [hx]; exact hk); ⟨k₁, h1, .head h0 stepR_scope h2⟩⟩
  | goto l => exact hq.elim
  | ret => exact ⟨_, a₁, w₁, hq, .of_steps (.one h0 stepR_scope) harr⟩
  | panic ch => exact ⟨_, a₁, w₁, hq, .of_steps (.one h0 stepR_scope) harr⟩
  | outgrown => exact ⟨_, a₁, w₁, hq, .of_steps (.one h0 stepR_scope) harr⟩
end scopes

section
variable {P : Program} {B : Nat} {s s1 s2 s' : S} {ex : Exit}

theorem Weak.refl (s : S) : Weak B s s := fun m w E a h => ⟨E, h, GrowB.refl B w E s.H⟩
theorem Weak.trans (h : Weak B s s1) (h' : Weak B s1 s2) : Weak B s s2 := fun m w E a hs => by
  obtain ⟨E1, h1, g1⟩ := h m w E a hs
  obtain ⟨E2, h2, g2⟩ := h' m w E1 a h1
  exact ⟨E2, h2, g1.trans g2⟩

variable {R R' : Exit → S → Prop}

theorem RunR.pre {c : Code} (hw : Weak B s s1) (h : RunR P B c s1 R) : RunR P B c s R := fun q m w E a Q hr hs hq => by
  obtain ⟨E1, h1, g1⟩ := hw m w E a hs
  exact h q m w E1 a Q hr h1 fun ex s' w' E' a' hR h2 g2 => hq ex s' w' E' a' hR h2 (g1.trans g2)
theorem RunR.post {c : Code} (h : RunR P B c s R') (hw : ∀ ex s1, R' ex s1 → ∃ s2, Weak B s1 s2 ∧ R ex s2) : RunR P B c s R := fun q m w E a Q hr hs hq =>
  h q m w E a Q hr hs fun ex s1 w' E' a' hR h1 g1 => by
    obtain ⟨s2, hw2, hR2⟩ := hw ex s1 hR
    obtain ⟨E2, h2, g2⟩ := hw2 m w' E' a' h1
    exact hq ex s2 w' E2 a' hR2 h2 (g1.trans g2)
theorem RunR.mono {c : Code} (h : RunR P B c s R') (hw : ∀ ex s1, R' ex s1 → R ex s1) : RunR P B c s R := h.post fun ex s1 hR => ⟨s1, .refl s1, hw ex s1 hR⟩
theorem RunL.pre {c : Code} {n : Nat} (hw : Weak B s s1) (h : RunL P B c n s1 R) : RunL P B c n s R := fun q m w E a Q hr hs hq => by
  obtain ⟨E1, h1, g1⟩ := hw m w E a hs
  exact h q m w E1 a Q hr h1 fun ex s' w' E' a' hR h2 g2 => hq ex s' w' E' a' hR h2 (g1.trans g2)

theorem RunR.skip (h : R .normal s) : RunR P B .skip s R := fun q m w E a Q hr hs hq => wpIn_skip (hq _ _ w E a h hs (GrowB.refl B w E s.H))
theorem RunR.exit (id : Nat) (h : R (.exit id) s) : RunR P B (.exit id) s R := fun q m w E a Q hr hs hq => wpIn_exit (hq _ _ w E a h hs (GrowB.refl B w E s.H))
theorem RunR.label (l : Nat) (h : R .normal s) : RunR P B (.label l) s R := fun q m w E a Q hr hs hq => wpIn_label (hq _ _ w E a h hs (GrowB.refl B w E s.H))
theorem RunR.ret (h : R .ret s) : RunR P B .ret s R := fun q m w E a Q hr hs hq => wpIn_ret (hq _ _ w E a h hs (GrowB.refl B w E s.H))

/-- What is asked behind the first of two. -/
def seqP (next : S → Prop) (R : Exit → S → Prop) : Exit → S → Prop
  | .normal, s => next s
  | ex, s => R ex s

theorem RunR.seq {x y : Code} (h : RunR P B x s (seqP (fun s1 => RunR P B y s1 R) R)) : RunR P B (.seq x y) s R := fun q m w E a Q hr hs hq =>
  wpIn_seq (h q m w E a _ (fun e => hr (by simp [ranged, e])) hs fun ex s1 w1 E1 a1 hR h1 g1 => by
    cases ex with
    | normal => exact (hR : RunR P B y s1 R) q m w1 E1 a1 Q (fun e => hr (by simp [ranged, e])) h1 fun ex s2 w2 E2 a2 hR2 h2 g2 => hq ex s2 w2 E2 a2 hR2 h2 (g1.trans g2)
    | _ => exact hq _ s1 w1 E1 a1 hR h1 g1)

/-- What is asked in a block. -/
def blockP (id : Nat) (R : Exit → S → Prop) : Exit → S → Prop
  | .exit id', s => if id' = id then R .normal s else R (.exit id') s
  | ex, s => R ex s

theorem RunR.block {id : Nat} {c : Code} (h : RunR P B c s (blockP id R)) : RunR P B (.block id c) s R := fun q m w E a Q hr hs hq =>
  wpIn_block (h q m w E a _ hr hs fun ex s1 w1 E1 a1 hR h1 g1 => by
    cases ex with
    | exit id' =>
      simp only [Exit.inBlock, blockP] at *
      split
      · rename_i hi; rw [if_pos hi] at hR; exact hq _ s1 w1 E1 a1 hR h1 g1
      · rename_i hi; rw [if_neg hi] at hR; exact hq _ s1 w1 E1 a1 hR h1 g1
    | _ => exact hq _ s1 w1 E1 a1 hR h1 g1)

/-- What is asked in a scope. -/
def scopeP (R : Exit → S → Prop) : Exit → S → Prop
  | .goto _, _ => False
  | ex, s => R ex s

theorem RunR.scope {c : Code} (h : RunR P B c s (scopeP R)) : RunR P B (.scope c) s R := fun q m w E a Q hr hs hq =>
  wpIn_scope_straight (h q m w E a _ hr hs fun ex s1 w1 E1 a1 hR h1 g1 => by
    cases ex with
    | goto l => exact (hR : False).elim
    | _ => exact hq _ s1 w1 E1 a1 hR h1 g1)

theorem RunL.step {c : Code} {n : Nat} (h : RunR P B c s (seqP (fun s1 => RunL P B c n s1 R) R)) : RunL P B c (n + 1) s R := fun q m w E a Q hr hs hq => by
  rw [roundsIn_succ]
  exact h q m w E a _ hr hs fun ex s1 w1 E1 a1 hR h1 g1 => by
    cases ex with
    | normal => exact (hR : RunL P B c n s1 R) q m w1 E1 a1 Q hr h1 fun ex s2 w2 E2 a2 hR2 h2 g2 => hq ex s2 w2 E2 a2 hR2 h2 (g1.trans g2)
    | _ => exact hq _ s1 w1 E1 a1 hR h1 g1
theorem RunL.more {c : Code} {n m : Nat} (hm : n ≤ m) {s : S} (h : RunL P B c n s R) : RunL P B c m s R := fun q k w E a Q hr hs hq => roundsIn_le hm (h q k w E a Q hr hs hq)

/-- A loop that ends within some rounds. -/
def Loops (P : Program) (B : Nat) (c : Code) (s : S) (R : Exit → S → Prop) : Prop := ∃ n, RunL P B c n s R
theorem Loops.pre {c : Code} (hw : Weak B s s1) (h : Loops P B c s1 R) : Loops P B c s R := let ⟨n, hn⟩ := h; ⟨n, .pre hw hn⟩
theorem RunR.loop {c : Code} (h : Loops P B c s R) : RunR P B (.loop c) s R := fun q m w E a Q hr hs hq => let ⟨n, hn⟩ := h; wpIn_loop_rounds n (hn q m w E a Q hr hs hq)

/-! ### Operands and guards -/

def ofV : Value → C
  | .slice none 0 0 => .lst 1 0 []
  | .func (.func f) first caps => if first.size = 0 ∧ caps.size = 0 then .fn f [] [] else .junk
  | .tuple vs => if vs.size = 0 then .un else .junk
  | .agg _ => .junk
  | x => .v x

theorem ofV_L (E : Env) (x : Value) : L E (ofV x) x := by
  unfold ofV
  split
  · exact .lnil _ _ (.inr rfl)
  · rename_i f first caps
    split
    · rename_i h
      obtain ⟨h1, h2⟩ := h
      obtain rfl : first = #[] := Array.eq_empty_of_size_eq_zero h1
      obtain rfl : caps = #[] := Array.eq_empty_of_size_eq_zero h2
      exact .fn f [] [] #[] #[] rfl rfl (by simp) (by simp)
    · exact .junk _
  · rename_i vs
    split
    · rename_i h
      obtain rfl : vs = #[] := Array.eq_empty_of_size_eq_zero h
      exact .un
    · exact .junk _
  · exact .junk _
  · rename_i h1 h2
    refine .v _ ?_
    cases x <;> simp_all [Value.oneCell']

def ev (tmps : List C) : Operand → C
  | .tmp t => (tmps[t]?).getD .junk
  | .const v => ofV v
  | .global g => .v (.pointer (some ⟨g, 0, none⟩))
  | .func f => .fn f [] []

theorem ev_L {E : Env} {tmps : List C} {a : Act} (h : LL E tmps a.tmps.toList) (x : Operand) : L E (ev tmps x) (a.eval x) := by
  cases x with
  | tmp t =>
    simp only [ev, Act.eval]
    cases ht : tmps[t]? with
    | none => exact .junk _
    | some c =>
      obtain ⟨y, hy, hl⟩ := h.get ht
      have : a.tmps.getD t undef = y := by
        rw [Array.getElem?_toList] at hy
        rw [Array.getD_eq_getD_getElem?, hy]; rfl
      rw [this]
      exact hl
  | const v => exact ofV_L E v
  | global g => exact .v _ rfl
  | func f => exact .fn f [] [] #[] #[] rfl rfl (by simp) (by simp)

/-- What a guard reads: 'none': it can't be told. -/
def aYield (ops : Array Oper) (tmps : List C) (j : Nat) : Option (Option Bool) :=
  match (ops[j]?).bind (·.dst) with
  | none => some none
  | some d => match tmps[d]? with
    | none => some none
    | some (.v (.bool b)) => some (some b)
    | some .un => some none
    | _ => none

theorem aYield_ok {E : Env} {ops : Array Oper} {tmps : List C} {a : Act} (h : LL E tmps a.tmps.toList) {j : Nat} {r : Option Bool} (hr : aYield ops tmps j = some r) : yielded ops a.tmps j = r := by
  unfold aYield at hr
  unfold yielded
  cases hd : (ops[j]?).bind (·.dst) with
  | none => simp only [hd] at hr; cases hr; rfl
  | some d =>
    simp only [hd, Option.bind_some] at hr ⊢
    cases ht : tmps[d]? with
    | none =>
      simp only [ht] at hr
      cases hr
      have hn : a.tmps[d]? = none := by
        rw [Array.getElem?_eq_none_iff]
        have := List.getElem?_eq_none_iff.1 ht
        have h1 := h.1
        simp at h1
        omega
      rw [hn]
    | some c =>
      simp only [ht] at hr
      obtain ⟨y, hy, hl⟩ := h.get ht
      rw [Array.getElem?_toList] at hy
      rw [hy]
      split at hr
      · rename_i e; cases e
      · rename_i e; cases e; cases hr; cases hl; rfl
      · rename_i e; cases e; cases hr; cases hl; rfl
      · cases hr

def aWanted (ops : Array Oper) (tmps : List C) (o : Oper) : Option Bool :=
  match o.guard with
  | none => some true
  | some (j, want) => match aYield ops tmps j with
    | some (some b) => some (b == want)
    | some none => some false
    | none => none

theorem aWanted_ok {E : Env} {ops : Array Oper} {tmps : List C} {a : Act} (h : LL E tmps a.tmps.toList) {o : Oper} {b : Bool} (hb : aWanted ops tmps o = some b) :
    Region.wanted o (yielded ops a.tmps) = b := by
  unfold aWanted at hb
  unfold Region.wanted
  split at hb
  · rename_i hg; simp only [hg]; cases hb; rfl
  · rename_i j want hg
    simp only [hg]
    split at hb
    · rename_i x hx; rw [aYield_ok h hx]; cases hb; cases x <;> cases want <;> rfl
    · rename_i hx; rw [aYield_ok h hx]; cases hb; rfl
    · cases hb

def put (tmps : List C) (dst : Option Tmp) (c : C) : List C :=
  match dst with
  | some d => tmps.set d c
  | none => tmps

theorem put_LL {E : Env} {tmps : List C} {a : Act} (h : LL E tmps a.tmps.toList) {c : C} {y : Value} (hl : L E c y) (dst : Option Tmp) : LL E (put tmps dst c) (a.put dst y).tmps.toList := by
  cases dst with
  | none => exact h
  | some d => simpa [put, Act.put] using h.set hl d

theorem SRel.put {m : Nat} {w : World} {E : Env} {s : S} {a : Act} (h : SRel B m w E s a) {c : C} {y : Value} (hl : L E c y) (dst : Option Tmp) :
    SRel B m w E ⟨Ab.put s.tmps dst c, s.H⟩ (a.put dst y) :=
  ⟨h.heap, put_LL h.tmps hl dst, by cases dst <;> exact h.defers, h.base⟩

theorem RunOps.nil {ops : Array Oper} {R : S → Prop} (h : R s) : RunOps P B ops [] s R := fun q m w E a Q hs hq => wpListIn_nil (hq s w E a h hs (GrowB.refl B w E s.H))

theorem RunOps.run {ops : Array Oper} {o : Oper} {l : List Oper} {R1 R : S → Prop} (hw : aWanted ops s.tmps o = some true) (h : RunOp P B o s R1) (h' : ∀ s1, R1 s1 → RunOps P B ops l s1 R) : RunOps P B ops (o :: l) s R := fun q m w E a Q hs hq => by
  unfold wpListIn
  rw [if_pos (aWanted_ok hs.tmps hw)]
  exact h q m w E a _ Q hs fun s1 w1 E1 a1 hR h1 g1 => h' s1 hR q m w1 E1 a1 Q h1 fun s2 w2 E2 a2 hR2 h2 g2 => hq s2 w2 E2 a2 hR2 h2 (g1.trans g2)

theorem RunOps.pass {ops : Array Oper} {o : Oper} {l : List Oper} {R : S → Prop} (hw : aWanted ops s.tmps o = some false) (h' : RunOps P B ops l ⟨put s.tmps o.dst .un, s.H⟩ R) : RunOps P B ops (o :: l) s R := fun q m w E a Q hs hq => by
  unfold wpListIn
  rw [if_neg (by rw [aWanted_ok hs.tmps hw]; decide)]
  exact ⟨fun _ _ => trivial, h' q m w E _ Q (hs.put (.un) o.dst) hq⟩

theorem RunR.region {id : Nat} {ops : Array Oper} {R : Exit → S → Prop} (h : RunOps P B ops ops.toList s (R .normal)) : RunR P B (.region id ops false) s R := fun q m w E a Q hs0 hs hq =>
  wpIn_region_list (h q m w E a Q hs fun s' w' E' a' hR h1 g1 => hq _ s' w' E' a' hR h1 g1)

theorem RunR.cond {c : Operand} {x y : Code} {b : Bool} {R : Exit → S → Prop} (hc : ev s.tmps c = .v (.bool b)) (h : RunR P B (if b then x else y) s R) : RunR P B (.cond c x y) s R := fun q m w E a Q hr hs hq => by
  have := ev_L hs.tmps c
  rw [hc] at this
  have hb : a.eval c = .bool b := by generalize a.eval c = z at *; cases this; rfl
  exact wpIn_cond hb (h q m w E a Q (fun e => hr (by cases b <;> simp_all [ranged])) hs hq)

end
end Go.Ab
