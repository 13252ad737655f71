/- Abstract cells, abstract objects, and how they stand for values and memory (no program in sight). -/
import Derived.WalkKit
import Derived.Still
namespace Go.Ab
set_option linter.unusedVariables false

abbrev Hop := Nat × Nat

/-- One abstract cell: a plain value; a list by value (0: shared, 1: shared and full, 2: owned where it stands), its elements as rows of so many cells; a pointer into shared memory, with the cells from there on; a pointer to a cell of an object; a slice of an array object; a function value; a map object; a struct or an array as a value; a tuple; nothing yet; anything; a list by value that a growing row stands for; an interface value; (in a heap alone) what lies in a block that holds no cells: the record of a loop over a function, a map's entries. -/
inductive C where
  | v (x : Value)
  | lst (o sz : Nat) (rows : List (List C))
  | sref (cells : List C)
  | ref (id : Nat) (hops : List Hop) (sz i k : Nat)
  | sl (id : Nat) (hops : List Hop) (sz lo len : Nat) (full : Bool)
  | fn (f : FuncId) (first caps : List C)
  | mp (id : Nat)
  | agg (cs : List C)
  | tup (vs : List C)
  | un
  | junk
  | gl (id sz : Nat) (rows : List (List C))
  | ifc (t : TypeId) (c : C)
  | rc (o : Obj)

/-- An object: 0 dead, 1 a variable, 2 an array, 3 a map, 4 a growing row; its rows; how many of them never change any more. -/
structure Ob where
  kind : Nat
  ty : TypeId
  sz : Nat
  rows : List (List C)
  fz : Nat := 0

abbrev Heap := List Ob

/-- Where objects lie, how many rows their blocks have room for, which cells never change, and what a growing row was when it had so many elements. -/
structure Env where
  n : Nat
  β : Nat → List Hop → Nat
  κ : Nat → List Hop → Nat
  St : Nat → Nat → Option Value
  G : Nat → Nat → Option Value := fun _ _ => none

/-- No object is known. -/
def Env.shut (E : Env) : Env := { E with n := 0 }
/-- What an object's cells may speak of: an array's of no object. -/
def Env.at (E : Env) (kd : Nat) : Env := if kd = 2 then E.shut else E

inductive L : Env → C → Value → Prop
  | v {E : Env} (x : Value) (h : x.oneCell' = true) : L E (.v x) x
  | lst {E : Env} (o sz : Nat) (rows : List (List C)) (b off cap : Nat) (us : Nat → Nat → Value) (ho : o = 0 ∨ o = 1 ∧ cap = rows.length) (hc : rows.length ≤ cap)
      (hsz : ∀ r ∈ rows, r.length = sz)
      (hst : ∀ (i : Nat) r (k : Nat) c, rows[i]? = some r → r[k]? = some c → E.St b (off + i * sz + k) = some (us i k))
      (hL : ∀ (i : Nat) r (k : Nat) c, rows[i]? = some r → r[k]? = some c → L E.shut c (us i k)) :
      L E (.lst o sz rows) (.slice (some ⟨b, off, none⟩) rows.length cap)
  | lnil {E : Env} (o sz : Nat) (ho : o = 0 ∨ o = 1) (a : Option Addr := none) : L E (.lst o sz []) (.slice a 0 0)
  | sref {E : Env} (cells : List C) (b off : Nat) (us : Nat → Value) (hst : ∀ (k : Nat) c, cells[k]? = some c → E.St b (off + k) = some (us k))
      (hL : ∀ (k : Nat) c, cells[k]? = some c → L E.shut c (us k)) : L E (.sref cells) (.pointer (some ⟨b, off, none⟩))
  | ref {E : Env} (id : Nat) (hops : List Hop) (sz i k : Nat) (hn : id < E.n) : L E (.ref id hops sz i k) (.pointer (some ⟨E.β id hops, i * sz + k, none⟩))
  | sl {E : Env} (id : Nat) (hops : List Hop) (sz lo len : Nat) (full : Bool) (cap : Nat) (hn : id < E.n) (hlen : len ≤ cap) (hf : full = true → cap = len) (hf' : full = false → lo + cap = E.κ id hops) :
      L E (.sl id hops sz lo len full) (.slice (some ⟨E.β id hops, lo * sz, none⟩) len cap)
  | fn {E : Env} (f : FuncId) (first caps : List C) (ys zs : Array Value) (h1 : first.length = ys.size) (h2 : caps.length = zs.size)
      (h3 : ∀ (i : Nat) c y, first[i]? = some c → ys[i]? = some y → L E c y) (h4 : ∀ (i : Nat) c y, caps[i]? = some c → zs[i]? = some y → L E c y) :
      L E (.fn f first caps) (.func (.func f) ys zs)
  | mp {E : Env} (id : Nat) (hn : id < E.n) : L E (.mp id) (.map (some (E.β id [])))
  | agg {E : Env} (cs : List C) (ys : Array Value) (h1 : cs.length = ys.size) (h2 : ∀ (i : Nat) c y, cs[i]? = some c → ys[i]? = some y → L E c y) (h3 : ∀ y ∈ ys, y.oneCell' = true) : L E (.agg cs) (.agg ys)
  | tup {E : Env} (cs : List C) (ys : Array Value) (h1 : cs.length = ys.size) (h2 : ∀ (i : Nat) c y, cs[i]? = some c → ys[i]? = some y → L E c y) : L E (.tup cs) (.tuple ys)
  | un {E : Env} : L E .un undef
  | junk {E : Env} (y : Value) : L E .junk y
  | gl {E : Env} (id sz : Nat) (rows : List (List C)) (y : Value) (hn : id < E.n) (hg : E.G id rows.length = some y) (h : L E.shut (.lst 0 sz rows) y) : L E (.gl id sz rows) y
  | ifc {E : Env} (t : TypeId) (c : C) (y : Value) (h : L E c y) : L E (.ifc t c) (.iface t y)

/-- An environment that knows more. -/
structure Env.le (E E' : Env) : Prop where
  n : E.n ≤ E'.n
  β : ∀ id hops, id < E.n → E'.β id hops = E.β id hops
  κ : ∀ id hops, id < E.n → E'.κ id hops = E.κ id hops
  St : ∀ b o u, E.St b o = some u → E'.St b o = some u
  G : ∀ id k u, id < E.n → E.G id k = some u → E'.G id k = some u

theorem Env.le.refl (E : Env) : E.le E := ⟨Nat.le_refl _, fun _ _ _ => rfl, fun _ _ _ => rfl, fun _ _ _ h => h, fun _ _ _ _ h => h⟩
theorem Env.le.trans {E E' E'' : Env} (h : E.le E') (h' : E'.le E'') : E.le E'' :=
  ⟨Nat.le_trans h.n h'.n, fun id hops hi => (h'.β id hops (Nat.lt_of_lt_of_le hi h.n)).trans (h.β id hops hi), fun id hops hi => (h'.κ id hops (Nat.lt_of_lt_of_le hi h.n)).trans (h.κ id hops hi),
    fun b o u hu => h'.St b o u (h.St b o u hu), fun id k u hi hu => h'.G id k u (Nat.lt_of_lt_of_le hi h.n) (h.G id k u hi hu)⟩

theorem Env.shut_le (E : Env) : E.shut.le E := ⟨Nat.zero_le _, fun _ _ h => absurd h (Nat.not_lt_zero _), fun _ _ h => absurd h (Nat.not_lt_zero _), fun _ _ _ h => h, fun _ _ _ h _ => absurd h (Nat.not_lt_zero _)⟩
theorem Env.le.shut {E E' : Env} (h : E.le E') : E.shut.le E'.shut := ⟨Nat.le_refl _, fun _ _ h => absurd h (Nat.not_lt_zero _), fun _ _ h => absurd h (Nat.not_lt_zero _), h.St, fun _ _ _ h _ => absurd h (Nat.not_lt_zero _)⟩
theorem Env.le.at {E E' : Env} (h : E.le E') (kd : Nat) : (E.at kd).le (E'.at kd) := by unfold Env.at; split; exact h.shut; exact h
theorem Env.at_le (E : Env) (kd : Nat) : (E.at kd).le E := by unfold Env.at; split; exact E.shut_le; exact .refl E

theorem L.mono {E E' : Env} (h : E.le E') {c : C} {y : Value} (hl : L E c y) : L E' c y := by
  induction hl generalizing E' with
  | v x hx => exact .v x hx
  | lst o sz rows b off cap us ho hc hsz hst _ ih => exact .lst o sz rows b off cap us ho hc hsz (fun i r k c h1 h2 => h.St _ _ _ (hst i r k c h1 h2)) (fun i r k c h1 h2 => ih i r k c h1 h2 h.shut)
  | lnil o sz ho a => exact .lnil o sz ho a
  | sref cells b off us hst _ ih => exact .sref cells b off us (fun k c h1 => h.St _ _ _ (hst k c h1)) (fun k c h1 => ih k c h1 h.shut)
  | ref id hops sz i k hn => rw [← h.β id hops hn]; exact .ref id hops sz i k (Nat.lt_of_lt_of_le hn h.n)
  | sl id hops sz lo len full cap hn hlen hf hf' =>
    rw [← h.β id hops hn]; exact .sl id hops sz lo len full cap (Nat.lt_of_lt_of_le hn h.n) hlen hf (fun e => by rw [h.κ id hops hn]; exact hf' e)
  | fn f first caps ys zs h1 h2 _ _ ih1 ih2 => exact .fn f first caps ys zs h1 h2 (fun i c y e1 e2 => ih1 i c y e1 e2 h) (fun i c y e1 e2 => ih2 i c y e1 e2 h)
  | mp id hn => rw [← h.β id [] hn]; exact .mp id (Nat.lt_of_lt_of_le hn h.n)
  | agg cs ys h1 _ h3 ih => exact .agg cs ys h1 (fun i c y e1 e2 => ih i c y e1 e2 h) h3
  | tup cs ys h1 _ ih => exact .tup cs ys h1 (fun i c y e1 e2 => ih i c y e1 e2 h)
  | un => exact .un
  | junk y => exact .junk y
  | gl id sz rows y hn hg _ ih => exact .gl id sz rows y (Nat.lt_of_lt_of_le hn h.n) (h.G _ _ _ hn hg) (ih h.shut)
  | ifc t c y _ ih => exact .ifc t c y (ih h)

/-- A plain value, a list by value and a pointer into shared memory speak of no object. -/
def shutC : C → Bool
  | .v _ | .lst .. | .sref _ => true
  | _ => false

theorem L.toShut {E : Env} {c : C} {y : Value} (h : L E c y) (hc : shutC c = true) : L E.shut c y := by
  cases h with
  | v x hx => exact .v _ hx
  | lst o sz rows b off cap us ho h2 hsz hst hL => exact .lst o sz rows b off cap us ho h2 hsz hst hL
  | lnil o sz ho a => exact .lnil o sz ho a
  | sref cells b off us hst hL => exact .sref cells b off us hst hL
  | _ => simp [shutC] at hc

/-- Cells that stand for cells, one by one. -/
def LL (E : Env) (cs : List C) (ys : List Value) : Prop := cs.length = ys.length ∧ ∀ (i : Nat) c y, cs[i]? = some c → ys[i]? = some y → L E c y

theorem LL.mono {E E' : Env} (h : E.le E') {cs : List C} {ys : List Value} (hl : LL E cs ys) : LL E' cs ys :=
  ⟨hl.1, fun i c y h1 h2 => (hl.2 i c y h1 h2).mono h⟩

theorem LL.nil {E : Env} : LL E [] [] := ⟨rfl, by simp⟩
theorem LL.cons {E : Env} {c : C} {y : Value} {cs : List C} {ys : List Value} (h : L E c y) (hl : LL E cs ys) : LL E (c :: cs) (y :: ys) := by
  refine ⟨by simp [hl.1], ?_⟩
  intro i c' y' h1 h2
  cases i with
  | zero => simp at h1 h2; subst h1; subst h2; exact h
  | succ i => simp at h1 h2; exact hl.2 i c' y' h1 h2
theorem LL.cons_inv {E : Env} {c : C} {y : Value} {cs : List C} {ys : List Value} (h : LL E (c :: cs) (y :: ys)) : L E c y ∧ LL E cs ys :=
  ⟨h.2 0 c y rfl rfl, by simpa using h.1, fun i c' y' h1 h2 => h.2 (i + 1) c' y' (by simpa using h1) (by simpa using h2)⟩
theorem LL.one {E : Env} {c : C} {y : Value} (h : L E c y) : LL E [c] [y] := LL.cons h LL.nil
theorem LL.append {E : Env} {cs cs' : List C} {ys ys' : List Value} (h : LL E cs ys) (h' : LL E cs' ys') : LL E (cs ++ cs') (ys ++ ys') := by
  refine ⟨by simp [h.1, h'.1], ?_⟩
  intro i c y h1 h2
  by_cases hi : i < cs.length
  · rw [List.getElem?_append_left hi] at h1
    rw [List.getElem?_append_left (by rw [← h.1]; exact hi)] at h2
    exact h.2 i c y h1 h2
  · rw [List.getElem?_append_right (by omega)] at h1
    rw [List.getElem?_append_right (by rw [← h.1]; omega), ← h.1] at h2
    exact h'.2 _ c y h1 h2
theorem LL.get {E : Env} {cs : List C} {ys : List Value} (h : LL E cs ys) {i : Nat} {c : C} (hc : cs[i]? = some c) : ∃ y, ys[i]? = some y ∧ L E c y := by
  have hi : i < ys.length := by rw [← h.1]; exact (List.getElem?_eq_some_iff.1 hc).1
  exact ⟨ys[i], by simp [hi], h.2 i c ys[i] hc (by simp [hi])⟩
theorem LL.take {E : Env} {cs : List C} {ys : List Value} (h : LL E cs ys) (n : Nat) : LL E (cs.take n) (ys.take n) := by
  refine ⟨by simp [h.1], ?_⟩
  intro i c y h1 h2
  rw [List.getElem?_take] at h1 h2
  split at h1
  · rename_i hi; rw [if_pos hi] at h2; exact h.2 i c y h1 h2
  · cases h1
theorem LL.drop {E : Env} {cs : List C} {ys : List Value} (h : LL E cs ys) (n : Nat) : LL E (cs.drop n) (ys.drop n) := by
  refine ⟨by simp [h.1], ?_⟩
  intro i c y h1 h2
  rw [List.getElem?_drop] at h1 h2
  exact h.2 _ c y h1 h2
theorem LL.set {E : Env} {cs : List C} {ys : List Value} (h : LL E cs ys) {c : C} {y : Value} (hl : L E c y) (i : Nat) : LL E (cs.set i c) (ys.set i y) := by
  refine ⟨by simp [h.1], ?_⟩
  intro j c' y' h1 h2
  rw [List.getElem?_set] at h1 h2
  by_cases hij : i = j
  · subst hij
    rw [if_pos rfl] at h1 h2
    split at h1
    · split at h2
      · cases h1; cases h2; exact hl
      · cases h2
    · cases h1
  · rw [if_neg hij] at h1 h2
    exact h.2 j c' y' h1 h2

/-- The cells of an abstract value. -/
def C.cells : C → List C
  | .agg cs => cs
  | c => [c]

theorem L.cells {E : Env} {c : C} {y : Value} (h : L E c y) (hj : c ≠ .junk) (hu : c ≠ .un) : LL E c.cells y.cells.toList := by
  have one : ∀ (c : C) (y : Value), L E c y → c.cells = [c] → y.cells = #[y] → LL E c.cells y.cells.toList := fun c y h e1 e2 => by
    rw [e1, e2]; exact LL.cons h LL.nil
  cases h with
  | v x hx => exact one _ _ (.v _ hx) rfl (by cases y <;> simp_all [Value.cells, Value.oneCell'])
  | agg cs ys h1 h2 h3 => exact ⟨by simpa [C.cells, Value.cells] using h1, fun i c y e1 e2 => h2 i c y e1 (by simpa [Value.cells] using e2)⟩
  | un => exact absurd rfl hu
  | junk => exact absurd rfl hj
  | tup cs ys h1 h2 => exact one _ _ (.tup cs ys h1 h2) rfl rfl
  | lst o sz rows b off cap us ho hc hsz hst hL => exact one _ _ (.lst o sz rows b off cap us ho hc hsz hst hL) rfl rfl
  | lnil o sz ho a => exact one _ _ (.lnil o sz ho a) rfl rfl
  | sref cells b off us hst hL => exact one _ _ (.sref cells b off us hst hL) rfl rfl
  | ref id hops sz i k hn => exact one _ _ (.ref id hops sz i k hn) rfl rfl
  | sl id hops sz lo len full cap hn hlen hf hf' => exact one _ _ (.sl id hops sz lo len full cap hn hlen hf hf') rfl rfl
  | fn f first caps ys zs h1 h2 h3 h4 => exact one _ _ (.fn f first caps ys zs h1 h2 h3 h4) rfl rfl
  | mp id hn => exact one _ _ (.mp id hn) rfl rfl
  | gl id sz rows y hn hg h => exact one _ _ (.gl id sz rows y hn hg h) rfl (by cases h <;> rfl)
  | ifc t c y h => exact one _ _ (.ifc t c y h) rfl rfl

/-! ### Objects -/

def cellAt (rows : List (List C)) (i k : Nat) : Option C := (rows[i]?).bind (·[k]?)

def getT : Nat → List (List C) → List Hop → Option (Nat × List (List C))
  | sz, rows, [] => some (sz, rows)
  | _, rows, (i, k) :: hs => match cellAt rows i k with
    | some (.lst 2 sz' rows') => getT sz' rows' hs
    | _ => none

def getB (H : Heap) (id : Nat) (hops : List Hop) : Option (Nat × List (List C)) :=
  match H[id]? with
  | some ob => if ob.kind = 1 ∨ ob.kind = 2 then getT ob.sz ob.rows hops else none
  | none => none

/-- A cell of an object's block. -/
def CellOK (E : Env) (kd : Nat) (id : Nat) (hops : List Hop) (i k : Nat) (c : C) (u : Value) : Prop :=
  match c with
  | .lst 2 _ rows' => u = .slice (some ⟨E.β id (hops ++ [(i, k)]), 0, none⟩) rows'.length (E.κ id (hops ++ [(i, k)]))
  | c => L (E.at kd) c u ∧ u.oneCell' = true

structure BlkOK (w : World) (E : Env) (kd : Nat) (id : Nat) (hops : List Hop) (sz : Nat) (rows : List (List C)) : Prop where
  len : rows.length ≤ E.κ id hops
  row : ∀ r ∈ rows, r.length = sz
  blk : ∃ cur e, w.heap[E.β id hops]? = some (.cells cur e (0, 0)) ∧ cur.size = E.κ id hops * sz ∧
    ∀ i k c, cellAt rows i k = some c → ∃ u, cur[i * sz + k]? = some u ∧ CellOK E kd id hops i k c u

/-- The heap of objects stands for the world's memory. -/
structure HRel0 (w : World) (E : Env) (H : Heap) : Prop where
  n : E.n = H.length
  blk : ∀ id ob hops sz rows, H[id]? = some ob → getB H id hops = some (sz, rows) → BlkOK w E ob.kind id hops sz rows
  inj : ∀ id hops id' hops' x y, getB H id hops = some x → getB H id' hops' = some y → E.β id hops = E.β id' hops' → id = id' ∧ hops = hops'
  stable : ∀ b o u, E.St b o = some u → w.cell? ⟨b, o, none⟩ = some u ∧ u.oneCell' = true
  sep : ∀ id hops x o u, getB H id hops = some x → E.St (E.β id hops) o = some u → hops = [] ∧ ∃ ob, H[id]? = some ob ∧ o < ob.fz * ob.sz
  ty : ∀ id ob, H[id]? = some ob → ob.kind = 2 → ∃ cur, w.heap[E.β id []]? = some (.cells cur ob.ty (0, 0))
  fz : ∀ (id : Nat) (ob : Ob), H[id]? = some ob → ob.fz ≤ ob.rows.length

end Go.Ab
