/- An abstract state's way through code, as a proposition that is unfolded step by step. -/
import Derived.Test.YtbndjpkncgfpiaaAbS
namespace Go.Ab
set_option linter.unusedVariables false

/-! ### Values brought to their heads -/

def forceV (x : Value) (k : Value → Prop) : Prop :=
  match x with
  | .int t n => k (.int t n)
  | .bool b => k (.bool b)
  | .string s => k (.string s)
  | x => k x

/-- A small number, as it is written. -/
def forceN (n : Nat) (k : Nat → Prop) : Prop :=
  match n with
  | 0 => k 0
  | 1 => k 1
  | 2 => k 2
  | 3 => k 3
  | 4 => k 4
  | 5 => k 5
  | 6 => k 6
  | 7 => k 7
  | 8 => k 8
  | 9 => k 9
  | 10 => k 10
  | 11 => k 11
  | 12 => k 12
  | 13 => k 13
  | 14 => k 14
  | 15 => k 15
  | 16 => k 16
  | 17 => k 17
  | 18 => k 18
  | 19 => k 19
  | 20 => k 20
  | 21 => k 21
  | 22 => k 22
  | 23 => k 23
  | 24 => k 24
  | 25 => k 25
  | 26 => k 26
  | 27 => k 27
  | 28 => k 28
  | 29 => k 29
  | 30 => k 30
  | 31 => k 31
  | 32 => k 32
  | n => k n

theorem forceN_spec {n : Nat} {k : Nat → Prop} (h : forceN n k) : k n := by
  unfold forceN at h
  split at h <;> exact h

def forceL {α : Type} : List α → (List α → Prop) → Prop
  | [], k => k []
  | x :: xs, k => forceL xs fun ys => k (x :: ys)

theorem forceL_spec {α : Type} : ∀ {l : List α} {k : List α → Prop}, forceL l k → k l
  | [], k, h => h
  | x :: xs, k, h => forceL_spec (l := xs) (k := fun ys => k (x :: ys)) h

def forceC (c : C) (k : C → Prop) : Prop :=
  match c with
  | .v x => forceV x fun x => k (.v x)
  | .lst o sz rows => k (.lst o sz rows)
  | .sref cells => forceL cells fun cells => k (.sref cells)
  | .ref id hops sz i j => forceN id fun id => forceN sz fun sz => forceN j fun j => k (.ref id hops sz i j)
  | .sl id hops sz lo len full => forceN id fun id => k (.sl id hops sz lo len full)
  | .fn f first caps => k (.fn f first caps)
  | .mp id => forceN id fun id => k (.mp id)
  | .agg cs => forceL cs fun cs => k (.agg cs)
  | .tup cs => forceL cs fun cs => k (.tup cs)
  | .un => k .un
  | .junk => k .junk
  | .gl id sz rows => forceN id fun id => k (.gl id sz rows)
  | .ifc t c => k (.ifc t c)
  | .rc r => k (.rc r)

theorem forceV_spec {x : Value} {k : Value → Prop} (h : forceV x k) : k x := by
  unfold forceV at h
  split at h <;> exact h
theorem forceC_spec {c : C} {k : C → Prop} (h : forceC c k) : k c := by
  cases c with
  | v x => exact forceV_spec (k := fun x => k (.v x)) h
  | sref cells => exact forceL_spec (k := fun cells => k (.sref cells)) h
  | ref id hops sz i j => exact forceN_spec (k := fun j => k (.ref id hops sz i j)) (forceN_spec (k := fun sz => forceN j fun j => k (.ref id hops sz i j)) (forceN_spec (k := fun id => forceN sz fun sz => forceN j fun j => k (.ref id hops sz i j)) h))
  | sl id hops sz lo len full => exact forceN_spec (k := fun id => k (.sl id hops sz lo len full)) h
  | mp id => exact forceN_spec (k := fun id => k (.mp id)) h
  | gl id sz rows => exact forceN_spec (k := fun id => k (.gl id sz rows)) h
  | agg cs => exact forceL_spec (k := fun cs => k (.agg cs)) h
  | tup cs => exact forceL_spec (k := fun cs => k (.tup cs)) h
  | _ => exact h

/-- Each element brought to its head. -/
def eachK {α : Type} (f : α → (α → Prop) → Prop) : List α → (List α → Prop) → Prop
  | [], k => k []
  | x :: xs, k => f x fun x => eachK f xs fun xs => k (x :: xs)

theorem eachK_spec {α : Type} {f : α → (α → Prop) → Prop} (hf : ∀ x k, f x k → k x) : ∀ {l : List α} {k : List α → Prop}, eachK f l k → k l
  | [], k, h => h
  | x :: xs, k, h => eachK_spec hf (l := xs) (k := fun xs => k (x :: xs)) (hf x _ h)

/-- A variable's cells are brought to their heads. -/
def forceOb (ob : Ob) (k : Ob → Prop) : Prop :=
  match ob with
  | ⟨kind, ty, sz, rows, fz⟩ => match kind with
    | 1 => forceN sz fun sz => eachK (eachK forceC) rows fun rows => k ⟨1, ty, sz, rows, fz⟩
    | kd => k ⟨kd, ty, sz, rows, fz⟩

theorem forceOb_spec {ob : Ob} {k : Ob → Prop} (h : forceOb ob k) : k ob := by
  obtain ⟨kind, ty, sz, rows, fz⟩ := ob
  unfold forceOb at h
  dsimp only at h
  split at h
  · exact eachK_spec (fun _ _ h => eachK_spec (fun _ _ h => forceC_spec h) h) (k := fun rows => k ⟨1, ty, sz, rows, fz⟩) (forceN_spec (k := fun sz => eachK (eachK forceC) rows fun rows => k ⟨1, ty, sz, rows, fz⟩) h)
  · exact h

def forceH (H : Heap) (k : Heap → Prop) : Prop := eachK forceOb H k
theorem forceH_spec {H : Heap} {k : Heap → Prop} (h : forceH H k) : k H := eachK_spec (fun _ _ h => forceOb_spec h) h

/-- A truth value comes up: both ways. -/
def okB (c : C) (k : C → Prop) : Prop :=
  match c with
  | .v (.bool b) => (b = true → k (.v (.bool true))) ∧ (b = false → k (.v (.bool false)))
  | c => k c

/-- A truth value that is known. -/
def litB (c : C) (k : C → Prop) : Prop :=
  match c with
  | .v (.bool b) => match b with
    | true => k (.v (.bool true))
    | false => k (.v (.bool false))
  | c => forceC c k

theorem litB_spec {c : C} {k : C → Prop} (h : litB c k) : k c := by
  unfold litB at h
  split at h
  · rename_i b; cases b <;> exact h
  · exact forceC_spec h

theorem okB_spec {c : C} {k : C → Prop} (h : okB c k) : k c := by
  unfold okB at h
  split at h
  · rename_i b; cases b
    · exact h.2 rfl
    · exact h.1 rfl
  · exact h

def setK {α : Type} : List α → Nat → α → (List α → Prop) → Prop
  | [], _, _, k => k []
  | _ :: xs, 0, y, k => k (y :: xs)
  | x :: xs, n + 1, y, k => setK xs n y fun ys => k (x :: ys)

theorem setK_spec {α : Type} : ∀ {l : List α} {n : Nat} {y : α} {k : List α → Prop}, setK l n y k → k (l.set n y)
  | [], _, _, k, h => h
  | _ :: xs, 0, y, k, h => h
  | x :: xs, n + 1, y, k, h => setK_spec (l := xs) (n := n) (y := y) (k := fun ys => k (x :: ys)) h

def putK (tmps : List C) (dst : Option Tmp) (c : C) (k : List C → Prop) : Prop :=
  match dst with
  | some d => setK tmps d c k
  | none => k tmps

theorem putK_spec {tmps : List C} {dst : Option Tmp} {c : C} {k : List C → Prop} (h : putK tmps dst c k) : k (put tmps dst c) := by
  cases dst with
  | none => exact h
  | some d => exact setK_spec h

/-- What a computation has to tell. -/
def bK (b : Bool) (k : Prop) : Prop :=
  match b with
  | true => k
  | false => False

theorem bK_spec {b : Bool} {k : Prop} (h : bK b k) : b = true ∧ k := by
  cases b
  · exact h.elim
  · exact ⟨rfl, h⟩

/-! ### One operation -/

/-- A bound of a cut, for the walk. -/
def bndK (ρ : Operand → C) (x : Option Operand) (dflt : Nat) (k : Nat → Prop) : Prop :=
  match x with
  | none => k dflt
  | some y => match ρ y with
    | .v (.int _ n) => 0 ≤ n ∧ k n.toNat
    | _ => False

theorem bndK_spec {ρ : Operand → C} {x : Option Operand} {dflt : Nat} {k : Nat → Prop} (h : bndK ρ x dflt k) : ∃ n, IsB ρ x dflt n ∧ k n := by
  unfold bndK at h
  unfold IsB
  cases x with
  | none => exact ⟨dflt, rfl, h⟩
  | some y =>
    dsimp only at h
    split at h
    · rename_i kd n e
      exact ⟨n.toNat, ⟨kd, by rw [e, Int.toNat_of_nonneg h.1]⟩, h.2⟩
    · exact h.elim

def sliceK (P : Program) (H : Heap) (ρ : Operand → C) (t : TypeId) (x : Operand) (lo hi mx : Option Operand) (K : C → Heap → Prop) : Prop :=
  match P.underlying t with
  | some (.slice e) => match P.info? e with
    | some i => match ρ x with
      | .lst fo sz rows => (rows = [] ∨ sz = i.size) ∧ match mx with
        | none => match hi with
          | none => bndK ρ lo 0 fun l => l ≤ rows.length ∧ K (.lst (if fo == 1 then 1 else 0) sz (rows.drop l)) H
          | some hh => bndK ρ lo 0 fun l => bndK ρ (some hh) rows.length fun h => l ≤ h ∧ h ≤ rows.length ∧ K (.lst 0 sz ((rows.drop l).take (h - l))) H
        | some m => match hi with
          | some hh => bndK ρ lo 0 fun l => bndK ρ (some hh) 0 fun h => bndK ρ (some m) 0 fun m' => m' = h ∧ l ≤ h ∧ h ≤ rows.length ∧ K (.lst 1 sz ((rows.drop l).take (h - l))) H
          | none => False
      | .sl id hops sz lo0 len full => match mx with
        | none => sz = i.size ∧ bndK ρ lo 0 fun l => bndK ρ hi len fun h => l ≤ h ∧ h ≤ len ∧ (l = 0 ∨ l < h) ∧ (full = false ∨ h = len) ∧ K (.sl id hops sz (lo0 + l) (h - l) full) H
        | some _ => False
      | _ => False
    | none => False
  | some .string => match ρ x with
    | .v (.string s) => match s with
      | ⟨⟨b⟩⟩ => match mx with
        | none => bndK ρ lo 0 fun l => bndK ρ hi b.length fun h => l ≤ h ∧ h ≤ b.length ∧ K (.v (.string ⟨⟨(b.take h).drop l⟩⟩)) H
        | some _ => False
    | _ => False
  | _ => False

def indexK (P : Program) (H : Heap) (ρ : Operand → C) (t : TypeId) (x y : Operand) (K : C → Heap → Prop) : Prop :=
  match P.underlying t with
  | some (.slice e) => match P.info? e with
    | some i => match ρ y with
      | .v (.int _ n) => match ρ x with
        | .lst o sz rows => bK ((o == 0 || o == 1) && sz == i.size) <| 0 ≤ n ∧ ∃ r, rows[n.toNat]? = some r ∧ K (.sref r) H
        | .sl id hops sz lo len _ => bK (sz == i.size) <| 0 ≤ n ∧ n.toNat < len ∧ K (.ref id hops sz (lo + n.toNat) 0) H
        | _ => False
      | _ => False
    | none => False
  | _ => False

/-- An element of a string or of an array as a value. -/
def indexV (P : Program) (H : Heap) (ρ : Operand → C) (t : TypeId) (x y : Operand) (K : C → Heap → Prop) : Prop :=
  match ρ y with
  | .v (.int _ n) => match P.underlying t with
    | some .string => match ρ x with
      | .v (.string s) => match s with
        | ⟨⟨b⟩⟩ => 0 ≤ n ∧ ∃ c, b[n.toNat]? = some c ∧ K (.v (.int .u8 c.toNat)) H
      | _ => False
    | some (.array len e) => match P.info? e with
      | some i => match ρ x with
        | .agg cs => 0 ≤ n ∧ n < len ∧ ∃ c, partC P e cs (n.toNat * i.size) = some c ∧ okB c fun c => forceC c fun c => K c H
        | _ => False
      | none => False
    | _ => False
  | _ => False

def fieldK (P : Program) (H : Heap) (ρ : Operand → C) (t : TypeId) (x : Operand) (f : Nat) (K : C → Heap → Prop) : Prop :=
  match P.underlying t with
  | some (.struct fs) => match fs[f]? with
    | some fd => match P.info? fd.type with
      | some i => match further (ρ x) fd.offset with
        | some c => bK (i.size != 0) <| forceC c fun c => K c H
        | none => False
      | none => False
    | none => False
  | _ => False

/-- An append that makes or turns an array object. -/
def appendS (P : Program) (H : Heap) (x : C) (sz' : Nat) (rows' : List (List C)) (e : TypeId) (i : TypeInfo) (K : C → Heap → Prop) : Prop :=
  match rows' with
  | [] => (rowsC H (asL x)).isSome = true ∧ K (asL x) H
  | r' :: rs' => bK (sz' == i.size) <| forceN i.size fun sz0 => forceN H.length fun m => match x with
    | .lst 1 sz rows => (rows = [] ∨ sz = sz0) ∧ rows.length + (rs'.length + 1) ≤ maxLen ∧ (rows.length + (rs'.length + 1)) * i.bytes ≤ 140737488355328 ∧
        forceL (H ++ [⟨2, e, sz0, rows ++ r' :: rs', 0⟩]) fun H' => K (.sl m [] sz0 0 (rows.length + (rs'.length + 1)) false) H'
    | .sl id [] sz 0 n false => match H[id]? with
      | some ob => bK (sz == sz0 && ob.kind == 2 && ob.ty == e && ob.sz == sz0) <| ob.rows.length = n ∧ ob.rows.all (·.all noOwn) = true ∧ n + (rs'.length + 1) ≤ maxLen ∧ (n + (rs'.length + 1)) * i.bytes ≤ 140737488355328 ∧
          forceL (killB H id ++ [⟨2, e, sz0, ob.rows ++ r' :: rs', ob.fz⟩]) fun H' => K (.sl m [] sz0 0 (n + (rs'.length + 1)) false) H'
      | none => False
    | _ => False

/-- An append that begins a growing row. -/
def appendG (H : Heap) (sz : Nat) (rows : List (List C)) (sz' : Nat) (rows' : List (List C)) (e : TypeId) (i : TypeInfo) (K : C → Heap → Prop) : Prop :=
  forceN i.size fun sz0 => forceN H.length fun m => (rows = [] ∨ sz = sz0) ∧ (rows' = [] ∨ sz' = sz0) ∧ rows.length + rows'.length ≤ maxLen ∧ (rows.length + rows'.length) * i.bytes ≤ 140737488355328 ∧
    forceL (H ++ [⟨4, e, sz0, rows ++ rows', 0⟩]) fun H' => K (.gl m sz0 (rows ++ rows')) H'

def appendK (P : Program) (H : Heap) (ρ : Operand → C) (x y : Operand) (e : TypeId) (i : TypeInfo) (K : C → Heap → Prop) : Prop :=
  match rowsC H (asL (ρ y)) with
  | some (sz', rows') => match ρ x with
    | .gl id sz rows => match H[id]? with
      | some ob => bK (sz == i.size) <| forceN i.size fun sz0 => ob = ⟨4, e, sz, rows, 0⟩ ∧ (rows' = [] ∨ sz' = sz0) ∧ rows.length + rows'.length ≤ maxLen ∧ (rows.length + rows'.length) * i.bytes ≤ 140737488355328 ∧
          setK H id ⟨4, e, sz0, rows ++ rows', 0⟩ fun H' => K (.gl id sz0 (rows ++ rows')) H'
      | none => False
    | .lst 1 sz rows => appendG H sz rows sz' rows' e i K ∨ appendS P H (.lst 1 sz rows) sz' rows' e i K
    | x => appendS P H x sz' rows' e i K
  | none => False

/-- Two strings. -/
def strK (H : Heap) (op : BinOp) (a b : List UInt8) (K : C → Heap → Prop) : Prop :=
  match op with
  | .eql => okB (.v (.bool (a == b))) fun c => K c H
  | .neq => okB (.v (.bool (!(a == b)))) fun c => K c H
  | .add => a.length + b.length ≤ 9223372036854775807 ∧ K (.v (.string ⟨⟨a ++ b⟩⟩)) H
  | _ => False

def callK (P : Program) (H : Heap) (ρ : Operand → C) (o : Oper) (cl : Call) (K : C → Heap → Prop) : Prop :=
  match cl.callee with
  | .value x => match ρ x with
    | .fn f first caps => bK (callable P f) <| ∃ r H', SoundAt P f H (first ++ (cl.args.toList.map fun x => asL (ρ x)) ++ caps) r H' ∧ okB r fun r => K r H'
    | .v (.func g first caps) => match g with
      | .yield l => bK (first.isEmpty && caps.isEmpty) <| ∃ r H', YieldS P l H (cl.args.toList.map ρ) r H' ∧ okB r fun r => K r H'
      | _ => False
    | _ => False
  | .builtin .len => match cl.args.toList, cl.argTypes.toList with
    | [x], [t] => match P.underlying t with
      | some (.slice _) => match lenC (asL (ρ x)) with
        | some n => K (.v (.int .i64 n)) H
        | none => False
      | some .string => match ρ x with
        | .v (.string s) => match s with
          | ⟨⟨b⟩⟩ => K (.v (.int .i64 b.length)) H
        | _ => False
      | _ => match runP P (execOp (fun x => sval (ρ x)) o) with
        | some (.value v) => bK (o.op.operands.toList.all (fun x => isV (ρ x)) && v.oneCell') <| okB (.v v) fun c => K c H
        | _ => False
    | _, _ => False
  | .builtin .append => match cl.args.toList, cl.argTypes.toList with
    | [x, y], [t, t'] => bK (t' == t) <| match P.underlying t with
      | some (.slice e) => match P.info? e with
        | some i => match i.zero with
          | some z => bK (z.cells.size == i.size) <| appendK P H ρ x y e i K
          | none => False
        | none => False
      | _ => False
    | _, _ => False
  | _ => match runP P (execOp (fun x => sval (ρ x)) o) with
    | some (.value v) => bK (o.op.operands.toList.all (fun x => isV (ρ x)) && v.oneCell') <| okB (.v v) fun c => K c H
    | _ => False

def eqK (P : Program) (H : Heap) (o : Oper) (ρ : Operand → C) (op : BinOp) (t : TypeId) (xs ys : List C) (K : C → Heap → Prop) : Prop :=
  (!P.eqGuardType P.depth t && heldB P 9 t) = true ∧ match eqC P 9 t (.agg xs) (.agg ys) with
    | some b => match op with
      | .eql => okB (.v (.bool b)) fun c => K c H
      | .neq => okB (.v (.bool (!b))) fun c => K c H
      | _ => False
    | none => False

/-- So many cells of a row. -/
def readK (P : Program) (t : TypeId) (id : Nat) (hops : List Hop) (i k : Nat) (r : List C) (K : C → Prop) : Prop :=
  match P.underlying t, P.info? t with
  | some d, some inf => match descAgg d with
    | true => k + inf.size ≤ r.length ∧ eachK forceC (viewRow id hops i k ((r.drop k).take inf.size)) fun cs => K (.agg cs)
    | false => k + 1 ≤ r.length ∧ match viewRow id hops i k ((r.drop k).take 1) with
      | [x] => okB x fun x => forceC x K
      | _ => False
  | _, _ => False

/-- A load: of an array's element, by what its row is told to be. -/
def loadK (P : Program) (H : Heap) (t : TypeId) (c : C) (K : C → Prop) : Prop :=
  match c with
  | .ref id hops sz i k => match H[id]? with
    | some ⟨kind, ty, osz, orows, fz⟩ => match kind with
      | 2 => match hops with
        | [] => bK (osz == sz) <| ∃ r, orows[i]? = some r ∧ readK P t id [] i k r K
        | h :: hs => ∃ rows r, getB H id (h :: hs) = some (sz, rows) ∧ rows[i]? = some r ∧ readK P t id (h :: hs) i k r K
      | _ => match loadC P H t (.ref id hops sz i k) with
        | some c => okB c fun c => forceC c K
        | none => False
    | none => False
  | c => match loadC P H t c with
    | some c => okB c fun c => forceC c K
    | none => False

theorem readK_spec {P : Program} {H : Heap} {t : TypeId} {id : Nat} {hops : List Hop} {sz i k : Nat} {rows : List (List C)} {r : List C} {K : C → Prop} (hg : getB H id hops = some (sz, rows)) (hr : rows[i]? = some r) (h : readK P t id hops i k r K) :
    ∃ c, loadC P H t (.ref id hops sz i k) = some c ∧ K c := by
  unfold readK at h
  split at h
  · rename_i d inf hd hi
    have hrd : ∀ n, k + n ≤ r.length → readC H (.ref id hops sz i k) n = some (viewRow id hops i k ((r.drop k).take n)) := fun n hn => by simp [readC, hg, hr, hn]
    split at h
    · rename_i hag
      obtain ⟨h1, h2⟩ := h
      refine ⟨_, ?_, eachK_spec (fun _ _ h => forceC_spec h) (k := fun cs => K (.agg cs)) h2⟩
      unfold loadC
      rw [hd, hi]
      simp only [hag, if_true]
      rw [hrd _ h1]
      rfl
    · rename_i hag
      obtain ⟨h1, h2⟩ := h
      split at h2
      · rename_i x hx
        refine ⟨x, ?_, forceC_spec (okB_spec (k := fun x => forceC x K) h2)⟩
        unfold loadC
        rw [hd, hi]
        simp only [hag]
        rw [hrd _ h1, hx]
        rfl
      · exact h2.elim
  · exact h.elim

theorem loadK_spec {P : Program} {H : Heap} {t : TypeId} {c : C} {K : C → Prop} (h : loadK P H t c K) : ∃ c', loadC P H t c = some c' ∧ K c' := by
  unfold loadK at h
  split at h
  · split at h
    · rename_i id hops sz i k kind ty osz orows fz hob
      split at h
      · split at h
        · obtain ⟨h1, r, h2, h3⟩ := bK_spec h
          simp only [beq_iff_eq] at h1
          exact readK_spec (by unfold getB; rw [hob]; simp [getT_nil, h1]) h2 h3
        · obtain ⟨rows, r, h1, h2, h3⟩ := h
          exact readK_spec h1 h2 h3
      · split at h
        · rename_i c hc
          exact ⟨c, hc, forceC_spec (okB_spec (k := fun c => forceC c K) h)⟩
        · exact h.elim
    · exact h.elim
  · split at h
    · rename_i c hc
      exact ⟨c, hc, forceC_spec (okB_spec (k := fun c => forceC c K) h)⟩
    · exact h.elim

/-- A row, written to. -/
def rowK (r : List C) (k : Nat) (cs : List C) (K : List C → Prop) : Prop := bK (Nat.ble (k + cs.length) r.length) <| forceL (writeRow k cs r) K

theorem rowK_spec {r : List C} {k : Nat} {cs : List C} {K : List C → Prop} (h : rowK r k cs K) : k + cs.length ≤ r.length ∧ K (writeRow k cs r) :=
  ⟨Nat.le_of_ble_eq_true (bK_spec h).1, forceL_spec (bK_spec h).2⟩

/-- A store: to an array's element, by what its row is told to be. -/
def storeK (P : Program) (H : Heap) (t : TypeId) (a x : C) (K : Heap → Prop) : Prop :=
  match a with
  | .ref id hops sz i k => match H[id]? with
    | some ⟨kind, ty, osz, orows, fz⟩ => match kind with
      | 2 => match P.info? t with
        | some inf => bK (valC x && (x.cells.length == inf.size) && x.cells.all shutC) <| eachK forceC x.cells fun cs => match hops with
          | [] => bK (osz == sz && fz == 0) <| ∃ r, orows[i]? = some r ∧ ((r.drop k).take cs.length).all noOwn = true ∧ rowK r k cs fun r' => setK H id ⟨2, ty, osz, orows.set i r', 0⟩ K
          | h :: hs => bK (fz == 0) <| ∃ rows r, getB H id (h :: hs) = some (sz, rows) ∧ rows[i]? = some r ∧ ((r.drop k).take cs.length).all noOwn = true ∧ rowK r k cs fun r' => setK H id ⟨2, ty, osz, setT orows (h :: hs) (fun rows => rows.set i r'), 0⟩ K
        | none => False
      | 1 => match hops, orows, i with
        | [], [r], 0 => match P.info? t with
          | some inf => bK (osz == sz && fz == 0 && valC x && (x.cells.length == inf.size) && ((r.drop k).take x.cells.length).all noOwn) <| eachK forceC x.cells fun cs => rowK r k cs fun r' => setK H id ⟨1, ty, osz, [r'], 0⟩ K
          | none => False
        | hops, _, i => match storeH P H t (.ref id hops sz i k) x with
          | some H' => forceH H' K
          | none => False
      | _ => match storeH P H t (.ref id hops sz i k) x with
        | some H' => forceH H' K
        | none => False
    | none => False
  | a => match storeH P H t a x with
    | some H' => forceH H' K
    | none => False

theorem modify_set {α : Type} {l : List α} {i : Nat} {r : α} (f : α → α) (h : l[i]? = some r) : l.modify i f = l.set i (f r) := by
  apply List.ext_getElem?
  intro j
  rw [List.getElem?_modify, List.getElem?_set]
  split
  · rename_i e
    subst e
    rw [if_pos (List.getElem?_eq_some_iff.1 h).1, h]
    rfl
  · simp

/-- A change of rows at a place, told by the rows that lie there. -/
theorem setT_congr {f g : List (List C) → List (List C)} : ∀ (hops : List Hop) (sz : Nat) (rows : List (List C)) {sz' : Nat} {rows' : List (List C)}, getT sz rows hops = some (sz', rows') → f rows' = g rows' → setT rows hops f = setT rows hops g
  | [], sz, rows, sz', rows', h, he => by
    rw [getT_nil] at h
    cases h
    exact he
  | (i, k) :: hs, sz, rows, sz', rows', h, he => by
    rw [getT_cons] at h
    rw [setT_cons, setT_cons]
    split at h
    · rename_i sz2 rows2 hc
      rw [hc]
      simp only [setT_congr hs sz2 rows2 h he]
    · cases h

theorem storeK_spec {P : Program} {H : Heap} {t : TypeId} {a x : C} {K : Heap → Prop} (h : storeK P H t a x K) : ∃ H', storeH P H t a x = some H' ∧ K H' := by
  unfold storeK at h
  cases a with
  | ref id hops sz i k =>
    dsimp only at h
    split at h
    · rename_i kind ty osz orows fz hob
      split at h
      · split at h
        · rename_i inf hinf
          obtain ⟨hv, h⟩ := bK_spec h
          have h := eachK_spec (fun _ _ h => forceC_spec h) h
          simp only [Bool.and_eq_true, beq_iff_eq] at hv
          have go : ∀ hops rows r, getB H id hops = some (sz, rows) → rows[i]? = some r → fz = 0 → ((r.drop k).take x.cells.length).all noOwn = true → (rowK r k x.cells fun r' => setK H id ⟨2, ty, osz, setT orows hops (fun rows => rows.set i r'), 0⟩ K) →
              ∃ H', storeH P H t (.ref id hops sz i k) x = some H' ∧ K H' := fun hops rows r h1 h2 h0 h3 h4 => by
            obtain ⟨h5, h6⟩ := rowK_spec h4
            have h6 := setK_spec h6
            refine ⟨_, ?_, h6⟩
            unfold storeH
            rw [hinf]
            dsimp only
            rw [h1, hob]
            dsimp only
            rw [h2]
            dsimp only
            rw [if_pos]
            · congr 1
              unfold setB
              rw [modify_set _ hob]
              congr 1
              dsimp only
              subst h0
              congr 1
              obtain ⟨ob2, e1, _, e3⟩ := getB_ob h1
              rw [hob] at e1
              cases e1
              exact setT_congr hops _ _ e3 (by unfold writeAt; rw [modify_set _ h2])
            · simp only [Bool.and_eq_true, beq_iff_eq, Bool.or_eq_true, decide_eq_true_eq]
              exact ⟨⟨⟨⟨⟨⟨⟨trivial, hv.1.1⟩, hv.1.2⟩, h5⟩, h3⟩, .inr hv.2⟩, .inr (by omega)⟩, .inr h0⟩
          split at h
          · obtain ⟨h1, r, h2, h3, h4⟩ := bK_spec h
            simp only [Bool.and_eq_true, beq_iff_eq] at h1
            exact go [] orows r (by unfold getB; rw [hob]; simp [getT_nil, h1.1]) h2 h1.2 h3 h4
          · obtain ⟨h1, rows, r, h2, h3, h4, h5⟩ := bK_spec h
            simp only [beq_iff_eq] at h1
            exact go _ rows r h2 h3 h1 h4 h5
        · exact h.elim
      · split at h
        · rename_i r
          split at h
          · rename_i inf hinf
            obtain ⟨hv, h⟩ := bK_spec h
            have h := eachK_spec (fun _ _ h => forceC_spec h) h
            obtain ⟨h5, h6⟩ := rowK_spec h
            have h6 := setK_spec h6
            simp only [Bool.and_eq_true, beq_iff_eq] at hv
            refine ⟨_, ?_, h6⟩
            have h1 : getB H id [] = some (osz, [r]) := by unfold getB; rw [hob]; simp [getT_nil]
            unfold storeH
            rw [hinf]
            dsimp only
            rw [h1, hob]
            dsimp only
            rw [show [r][0]? = some r from rfl]
            dsimp only
            rw [if_pos]
            · congr 1
              unfold setB
              rw [modify_set _ hob]
              congr 1
              dsimp only
              obtain ⟨⟨⟨⟨_, rfl⟩, _⟩, _⟩, _⟩ := hv
              rw [setT_nil]
              unfold writeAt
              rfl
            · simp only [Bool.and_eq_true, beq_iff_eq, Bool.or_eq_true, decide_eq_true_eq]
              obtain ⟨⟨⟨⟨e1, e2⟩, e3⟩, e4⟩, e5⟩ := hv
              exact ⟨⟨⟨⟨⟨⟨⟨e1, e3⟩, e4⟩, h5⟩, e5⟩, .inl trivial⟩, .inr (by omega)⟩, .inr e2⟩
          · exact h.elim
        · split at h
          · rename_i H' hc
            exact ⟨H', hc, forceH_spec h⟩
          · exact h.elim
      · split at h
        · rename_i H' hc
          exact ⟨H', hc, forceH_spec h⟩
        · exact h.elim
    · exact h.elim
  | _ =>
    dsimp only at h
    split at h
    · rename_i H' hc
      exact ⟨H', hc, forceH_spec h⟩
    · exact h.elim

/-- The address lies in an array. -/
def storesC (H : Heap) (a : C) : Bool :=
  match a with
  | .ref id _ _ _ _ => match H[id]? with
    | some ob => match ob.kind with
      | 2 => true
      | _ => false
    | none => false
  | _ => false

/-- A conversion: of bytes to a string, or of a plain value. -/
def convK (P : Program) (H : Heap) (ρ : Operand → C) (o : Oper) (src dst : TypeId) (x : Operand) (K : C → Heap → Prop) : Prop :=
  match Ab.asL (ρ x) with
  | .lst _ sz rows => match P.underlying src, P.underlying dst with
    | some (.slice e), some .string => match P.underlying e with
      | some (.int .u8) => bK (sz == 1) <| ∃ bts : List UInt8, rows = bts.map byteR ∧ K (.v (.string ⟨⟨bts⟩⟩)) H
      | _ => False
    | _, _ => False
  | _ => match runP P (execOp (fun x => sval (ρ x)) o) with
    | some (.value v) => bK (notSelect o && o.op.operands.toList.all (fun x => isV (ρ x)) && v.oneCell') <| okB (.v v) fun c => K c H
    | _ => False

/-- A slice made of so many elements. -/
def makeK (P : Program) (H : Heap) (ρ : Operand → C) (t : TypeId) (x y : Operand) (K : C → Heap → Prop) : Prop :=
  match ρ x, ρ y with
  | .v (.int _ n), .v (.int _ n') => match P.underlying t with
    | some (.slice e) => match P.info? e with
      | some i => match zeroC P e with
        | some cs => bK (cs.all shutC) <| n' = n ∧ 0 ≤ n ∧ (i.bytes : Int) * n ≤ 281474976710656 ∧ n ≤ 9223372036854775807 ∧
            forceN i.size fun sz => forceN H.length fun m => forceL (H ++ [⟨2, e, sz, List.replicate n.toNat cs, 0⟩]) fun H' => K (.sl m [] sz 0 n.toNat false) H'
        | none => False
      | none => False
    | _ => False
  | _, _ => False

/-- A slice is held against nil. -/
def nilOp (o : Oper) : Option (BinOp × TypeId × Operand) :=
  match o.op with
  | .binOp op t x y _ => match y with
    | .const v => match v with
      | .slice none 0 0 => some (op, t, x)
      | _ => none
    | _ => none
  | _ => none

def nilK (P : Program) (H : Heap) (op : BinOp) (t : TypeId) (x : C) (K : C → Heap → Prop) : Prop :=
  match P.underlying t with
  | some (.slice _) => match x with
    | .lst _ _ rows => match op with
      | .eql => rows ≠ [] ∧ K (.v (.bool false)) H
      | .neq => rows ≠ [] ∧ K (.v (.bool true)) H
      | _ => False
    | .sl .. => match op with
      | .eql => K (.v (.bool false)) H
      | .neq => K (.v (.bool true)) H
      | _ => False
    | _ => False
  | _ => False

/-- **One operation over a state**: what has to be shown, and what follows. -/
def stepC (P : Program) (H : Heap) (ρ : Operand → C) (o : Oper) (K : C → Heap → Prop) : Prop :=
  match o.op with
  | .move x => forceC (ρ x) fun c => K c H
  | .assign x => forceC (ρ x) fun c => K c H
  | .pick x y z => match ρ x with
    | .v (.bool b) => forceC (if b then ρ y else ρ z) fun c => K c H
    | _ => False
  | .alloc t => match zeroC P t with
    | some cs => forceL cs fun cs => forceN cs.length fun n => forceN H.length fun m => forceL (H ++ [⟨1, t, n, [cs], 0⟩]) fun H' => K (.ref m [] n 0 0) H'
    | none => False
  | .box t x => bK (valC (ρ x)) <| eachK forceC (ρ x).cells fun cs => forceN cs.length fun n => forceN H.length fun m => forceL (H ++ [⟨1, t, n, [cs], 0⟩]) fun H' => K (.ref m [] n 0 0) H'
  | .fieldAddr t x f => fieldK P H ρ t x f K
  | .indexAddr t x y => indexK P H (fun x => asL (ρ x)) t x y K
  | .index t x y => indexV P H ρ t x y K
  | .load t x => loadK P H t (ρ x) fun c => K c H
  | .store t x y => match storesC H (ρ x) with
    | true => storeK P H t (ρ x) (shareC (ρ y)) fun H' => K .un H'
    | false => storeK P H t (ρ x) (ρ y) fun H' => K .un H'
  | .extract x n => match ρ x with
    | .tup vs => match vs[n]? with
      | some c => okB c fun c => forceC c fun c => K c H
      | none => False
    | _ => False
  | .nilCheck x => bK (notNilC (ρ x)) <| forceC (ρ x) fun c => K c H
  | .makeFunc f first caps => match f with
    | .func f => eachK forceC (first.toList.map ρ) fun a => eachK forceC (caps.toList.map ρ) fun b => K (.fn f a b) H
    | _ => False
  | .build t parts => match builtC P t (parts.toList.map fun p => (p.1, ρ p.2)) with
    | some cs => eachK forceC cs fun cs => K (.agg cs) H
    | none => False
  | .buildSlice t len parts => match litC P t len (parts.toList.map fun p => (p.1, asL (ρ p.2))) with
    | some c => match c with
      | .lst o sz rows => eachK (eachK forceC) rows fun rows => forceN sz fun sz => K (.lst o sz rows) H
      | _ => False
    | none => False
  | .slice t x lo hi mx => sliceK P H (fun x => asL (ρ x)) t x lo hi mx K
  | .makeSlice t x y => makeK P H ρ t x y K
  | .lookup .. => ∃ c H', OpV P o ρ H c H' ∧ K c H'
  | .mapUpdate .. => ∃ c H', OpV P o ρ H c H' ∧ K c H'
  | .mapEntry .. => ∃ c H', OpV P o ρ H c H' ∧ K c H'
  | .entryStore .. => ∃ c H', OpV P o ρ H c H' ∧ K c H'
  | .call cl => callK P H ρ o cl K
  | .binOp op t x y _ => match ρ x, ρ y with
    | .agg xs, .agg ys => eqK P H o ρ op t xs ys K
    | .v (.string s), .v (.string s') => match s, s' with
      | ⟨⟨a⟩⟩, ⟨⟨b⟩⟩ => strK H op a b K
    | _, _ => match runP P (execOp (fun x => sval (ρ x)) o) with
      | some (.value v) => bK (notSelect o && o.op.operands.toList.all (fun x => isV (ρ x)) && v.oneCell') <| okB (.v v) fun c => K c H
      | _ => False
  | .convert src dst x => convK P H ρ o src dst x K
  | .unOp _ _ _ => match runP P (execOp (fun x => sval (ρ x)) o) with
    | some (.value v) => bK (notSelect o && o.op.operands.toList.all (fun x => isV (ρ x)) && v.oneCell') <| litB (.v v) fun c => K c H
    | _ => False
  | _ => match runP P (execOp (fun x => sval (ρ x)) o) with
    | some (.value v) => bK (notSelect o && o.op.operands.toList.all (fun x => isV (ρ x)) && v.oneCell') <| okB (.v v) fun c => K c H
    | _ => False

section
variable {P : Program} {o : Oper} {ρ : Operand → C} {H : Heap} {K : C → Heap → Prop}

/-- It may be taken for what says less. -/
theorem OpV.weak {c c' : C} {H' : Heap} (h : OpV P o ρ H c H') (hw : WC c c') : OpV P o ρ H c' H' := fun w E σ hh hl K hk => h w E σ hh hl K fun v w' E' h1 h2 g => hk v w' E' h1 (hw E' v h2) g

/-- Arguments that say less. -/
theorem OpV.callL (cl : Call) (ho : o.op = .call cl) (x : Operand) (hcl : cl.callee = .value x) {f : FuncId} {first caps : List C} (hf : ρ x = .fn f first caps) (hcb : callable P f = true) {r : C} {H' : Heap}
    (hs : SoundAt P f H (first ++ (cl.args.toList.map fun x => Ab.asL (ρ x)) ++ caps) r H') : OpV P o ρ H r H' := .asL <| .call cl ho x hcl (by rw [hf]; rfl) hcb hs

theorem OpV.storeS (t : TypeId) (x y : Operand) (ho : o.op = .store t x y) {H' : Heap} (hs : storeH P H t (ρ x) (shareC (ρ y)) = some H') : OpV P o ρ H .un H' := by
  classical
  have hρ : ∀ z, ∃ c, (c = ρ z ∨ c = shareC (ρ z)) ∧ (z = y → c = shareC (ρ z)) ∧ (z ≠ y → c = ρ z) := fun z => by
    by_cases e : z = y
    · exact ⟨shareC (ρ z), .inr rfl, fun _ => rfl, fun h => absurd e h⟩
    · exact ⟨ρ z, .inl rfl, fun h => absurd h e, fun _ => rfl⟩
  obtain ⟨ρ', hρ'⟩ : ∃ ρ' : Operand → C, ∀ z, (ρ' z = ρ z ∨ ρ' z = shareC (ρ z)) ∧ (z = y → ρ' z = shareC (ρ z)) ∧ (z ≠ y → ρ' z = ρ z) := ⟨fun z => (hρ z).choose, fun z => (hρ z).choose_spec⟩
  have hx : ρ' x = ρ x := by
    rcases (hρ' x).1 with e | e
    · exact e
    · rw [e]
      unfold storeH at hs
      split at hs
      · rename_i e2 _; rw [e2]; rfl
      · cases hs
  have h0 : OpV0 P o ρ' H .un H' := OpV0.store t x y ho (by rw [hx, (hρ' y).2.1 rfl]; exact hs)
  refine .of0 (h0.weaken fun z E v hl => ?_) (storeH_keep hs)
  rcases (hρ' z).1 with e | e
  · rw [e]; exact hl
  · rw [e]; exact shareC_L hl

theorem scalar_spec (h : match runP P (execOp (fun x => sval (ρ x)) o) with
    | some (.value v) => bK (notSelect o && o.op.operands.toList.all (fun x => isV (ρ x)) && v.oneCell') <| okB (.v v) fun c => K c H
    | _ => False) : ∃ c, (∀ H2, OpV P o ρ H2 c H2) ∧ K c H := by
  split at h
  · rename_i v e
    obtain ⟨h1, h2⟩ := bK_spec h
    simp only [Bool.and_eq_true, Array.all_toList] at h1
    exact ⟨.v v, fun H2 => .same <| .scalar h1.1.1 h1.1.2 e h1.2, okB_spec (k := fun c => K c H) h2⟩
  · exact h.elim

theorem sliceK_spec {t : TypeId} {x : Operand} {lo hi mx : Option Operand} (ho : o.op = .slice t x lo hi mx) (h : sliceK P H ρ t x lo hi mx K) : ∃ c, (∀ H2, OpV P o ρ H2 c H2) ∧ K c H := by
  unfold sliceK at h
  split at h
  rotate_left
  · rename_i hu
    split at h
    · rename_i s hx
      obtain ⟨⟨b⟩⟩ := s
      dsimp only at h
      split at h
      · obtain ⟨l, h1, h⟩ := bndK_spec h
        obtain ⟨h', h2, h3, h4, h5⟩ := bndK_spec h
        exact ⟨_, fun H2 => .same <| .strSlice t x lo hi ho hu hx h1 h2 h3 h4, h5⟩
      · exact h.elim
    · exact h.elim
  · exact h.elim
  rename_i e hu
  split at h
  rotate_left
  · exact h.elim
  rename_i i hi'
  split at h
  · rename_i fo sz rows hx
    obtain ⟨hsz, h⟩ := h
    split at h
    · split at h
      · obtain ⟨l, h1, h3, h5⟩ := bndK_spec h
        have := fun H2 => OpV.same <| OpV0.sliceLst (H := H2) t x lo none ho hu hi' hx hsz h1 (rfl : IsB ρ none rows.length rows.length) h3 (Nat.le_refl _)
        refine ⟨_, this, ?_⟩
        rw [List.take_of_length_le (by simp)]
        by_cases hfo : fo = 1
        · simpa [hfo] using h5
        · simpa [hfo] using h5
      · rename_i hh
        obtain ⟨l, h1, h⟩ := bndK_spec h
        obtain ⟨h', h2, h3, h4, h5⟩ := bndK_spec h
        exact ⟨_, fun H2 => .weak (.same <| .sliceLst t x lo (some hh) ho hu hi' hx hsz h1 h2 h3 h4) (.share _ _ _), h5⟩
    · split at h
      · obtain ⟨l, h1, h⟩ := bndK_spec h
        obtain ⟨h', h2, h⟩ := bndK_spec h
        obtain ⟨m, h3, rfl, h4, h5, h6⟩ := bndK_spec h
        exact ⟨_, fun H2 => .same <| .slice3Lst t x lo _ _ ho hu hi' hx hsz h1 h2 h3 h4 h5, h6⟩
      · exact h.elim
  · rename_i id hops sz lo0 len full hx
    split at h
    · obtain ⟨hsz, h⟩ := h
      obtain ⟨l, h1, h⟩ := bndK_spec h
      obtain ⟨h', h2, h3, h4, h5, h6, h7⟩ := bndK_spec h
      exact ⟨_, fun H2 => .same <| .sliceSl t x lo hi ho hu hi' hx hsz h1 h2 h3 h4 h5 h6, h7⟩
    · exact h.elim
  · exact h.elim

theorem indexK_spec {t : TypeId} {x y : Operand} (ho : o.op = .indexAddr t x y) (h : indexK P H ρ t x y K) : ∃ c, (∀ H2, OpV P o ρ H2 c H2) ∧ K c H := by
  unfold indexK at h
  split at h
  rotate_left
  · exact h.elim
  rename_i e hu
  split at h
  rotate_left
  · exact h.elim
  rename_i i hi
  split at h
  rotate_left
  · exact h.elim
  rename_i k n hy
  split at h
  · rename_i fo sz rows hx
    obtain ⟨h1, h3, r, h4, h5⟩ := bK_spec h
    refine ⟨_, fun H2 => .same <| .indexAddr t x y ho hu hi hy h3 (c := .sref r) ?_, h5⟩
    rw [hx]
    simp only [elemC]
    rw [if_pos h1, h4]
    rfl
  · rename_i id hops sz lo len full hx
    obtain ⟨h2, h3, h4, h5⟩ := bK_spec h
    simp only [beq_iff_eq] at h2
    refine ⟨_, fun H2 => .same <| .indexAddr t x y ho hu hi hy h3 (c := .ref id hops sz (lo + n.toNat) 0) ?_, h5⟩
    rw [hx]
    simp only [elemC]
    rw [if_pos (by simp [h4, h2])]
  · exact h.elim

theorem indexV_spec {t : TypeId} {x y : Operand} (ho : o.op = .index t x y) (h : indexV P H ρ t x y K) : ∃ c, (∀ H2, OpV P o ρ H2 c H2) ∧ K c H := by
  unfold indexV at h
  split at h
  · rename_i k n hy
    split at h
    · rename_i hu
      split at h
      · rename_i s hx
        obtain ⟨⟨b⟩⟩ := s
        obtain ⟨h1, c, h2, h3⟩ := h
        exact ⟨_, fun H2 => .same <| .strIndex t x y ho hu hx hy h1 h2, h3⟩
      · exact h.elim
    · rename_i len e hu
      split at h
      · rename_i i hi
        split at h
        · rename_i cs hx
          obtain ⟨h1, h2, c, h3, h4⟩ := h
          exact ⟨c, fun H2 => .same <| .indexArray t x y ho hu hi hx hy h1 h2 h3, forceC_spec (k := fun c => K c H) (okB_spec (k := fun c => forceC c fun c => K c H) h4)⟩
        · exact h.elim
      · exact h.elim
    · exact h.elim
  · exact h.elim

theorem strK_spec {t t' : TypeId} {op : BinOp} {x y : Operand} {a b : List UInt8} (ho : o.op = .binOp op t x y t') (hx : ρ x = .v (.string (bs a))) (hy : ρ y = .v (.string (bs b))) (h : strK H op a b K) : ∃ c, (∀ H2, OpV P o ρ H2 c H2) ∧ K c H := by
  unfold strK at h
  split at h
  · exact ⟨_, fun H2 => .same <| .strEq .eql t t' x y ho (.inl rfl) hx hy, okB_spec (k := fun c => K c H) h⟩
  · exact ⟨_, fun H2 => .same <| .strEq .neq t t' x y ho (.inr rfl) hx hy, okB_spec (k := fun c => K c H) h⟩
  · exact ⟨_, fun H2 => .same <| .strAdd t t' x y ho hx hy h.1, h.2⟩
  · exact h.elim

theorem fieldK_spec {t : TypeId} {x : Operand} {f : Nat} (ho : o.op = .fieldAddr t x f) (h : fieldK P H ρ t x f K) : ∃ c, (∀ H2, OpV P o ρ H2 c H2) ∧ K c H := by
  unfold fieldK at h
  split at h
  rotate_left
  · exact h.elim
  rename_i fs hu
  split at h
  rotate_left
  · exact h.elim
  rename_i fd hf
  split at h
  rotate_left
  · exact h.elim
  rename_i i hi
  split at h
  rotate_left
  · exact h.elim
  rename_i c hc
  obtain ⟨h1, h2⟩ := bK_spec h
  exact ⟨c, fun H2 => .same <| .fieldAddr t x f ho hu hf hi (by simpa using h1) hc, forceC_spec (k := fun c => K c H) h2⟩

theorem appendS_spec {cl : Call} (ho : o.op = .call cl) {x y : Operand} {e : TypeId} {i : TypeInfo} {z : Value} (ht : AppT P cl x y e i z) {sz' : Nat} {rows' : List (List C)} (hy : rowsC H (asL (ρ y)) = some (sz', rows'))
    (h : appendS P H (ρ x) sz' rows' e i K) : ∃ c H', OpV P o ρ H c H' ∧ K c H' := by
  unfold appendS at h
  split at h
  · obtain ⟨h1, h2⟩ := h
    obtain ⟨⟨sz, rows⟩, hx⟩ := Option.isSome_iff_exists.1 h1
    exact ⟨_, H, .asL (ρ := ρ) (.same <| .appendNone cl ho x y ht hx hy), h2⟩
  · rename_i r' rs'
    replace h := bK_spec h
    obtain ⟨hz, h⟩ := h
    have hz := eq_of_beq hz
    subst hz
    have h := forceN_spec h
    have h := forceN_spec h
    split at h
    · rename_i sz rows hx
      obtain ⟨h1, h2, h3, h4⟩ := h
      exact ⟨_, _, .asL (ρ := ρ) (.same' (.appendFull cl ho x y ht (by rw [hx]; rfl) h1 hy (by simp) (by simpa using h2) (by simpa using h3)) _ (fun e => by cases e) rfl), by simpa using forceL_spec h4⟩
    · rename_i id sz n hx
      split at h
      · rename_i ob hob
        replace h := bK_spec h
        obtain ⟨hb, h4, h5, h6, h7, h8⟩ := h
        simp only [Bool.and_eq_true, beq_iff_eq] at hb
        obtain ⟨⟨⟨rfl, h1⟩, h2⟩, h3⟩ := hb
        exact ⟨_, _, .asL (ρ := ρ) (.of0 (.appendArr cl ho x y ht (by rw [hx]; rfl) hob h1 h2 h3 h4 h5 hy (by simp) (by simpa using h6) (by simpa using h7)) (Keep4.trans (Keep4.killB H id fun ob' h' => by rw [hob] at h'; cases h'; rw [h1]; decide) (Keep4.push _ _ (fun e => by cases e)))), by simpa using forceL_spec h8⟩
      · exact h.elim
    · exact h.elim

theorem appendK_spec {cl : Call} (ho : o.op = .call cl) {x y : Operand} {e : TypeId} {i : TypeInfo} {z : Value} (ht : AppT P cl x y e i z) (h : appendK P H ρ x y e i K) : ∃ c H', OpV P o ρ H c H' ∧ K c H' := by
  unfold appendK at h
  split at h
  rotate_left
  · exact h.elim
  rename_i sz' rows' hy
  split at h
  · rename_i id sz rows hx
    split at h
    · rename_i ob hob
      replace h := bK_spec h
      obtain ⟨hz, h⟩ := h
      have hz := eq_of_beq hz
      subst hz
      have h := forceN_spec h
      obtain ⟨h1, h2, h3, h4, h5⟩ := h
      exact ⟨_, _, .appendGl cl ho x y ht hx hob h1 hy h2 h3 h4, setK_spec h5⟩
    · exact h.elim
  · rename_i sz rows hx
    rcases h with h | h
    · unfold appendG at h
      have h := forceN_spec h
      have h := forceN_spec h
      obtain ⟨h1, h2, h3, h4, h5⟩ := h
      exact ⟨_, _, .appendFullGl cl ho x y ht hx h1 hy h2 h3 h4, forceL_spec h5⟩
    · exact appendS_spec ho ht hy (hx ▸ h)
  · exact appendS_spec ho ht hy h

theorem Array.of_toList {α : Type} {a : Array α} {l : List α} (h : a.toList = l) : a = l.toArray := by subst h; simp

theorem callK_spec {cl : Call} (ho : o.op = .call cl) (h : callK P H ρ o cl K) : ∃ c H', OpV P o ρ H c H' ∧ K c H' := by
  have hns : notSelect o = true := by simp [notSelect, ho]
  have scal : ∀ (h : match runP P (execOp (fun x => sval (ρ x)) o) with
      | some (.value v) => bK (o.op.operands.toList.all (fun x => isV (ρ x)) && v.oneCell') <| okB (.v v) fun c => K c H
      | _ => False), ∃ c H', OpV P o ρ H c H' ∧ K c H' := by
    intro h
    split at h
    · rename_i v e
      obtain ⟨h1, h2⟩ := bK_spec h
      simp only [Bool.and_eq_true, Array.all_toList] at h1
      exact ⟨.v v, H, .same <| .scalar hns h1.1 e h1.2, okB_spec (k := fun c => K c H) h2⟩
    · exact h.elim
  unfold callK at h
  split at h
  · rename_i x hcl
    split at h
    · rename_i f first caps hf
      obtain ⟨h1, r, H', h2, h3⟩ := bK_spec h
      exact ⟨r, H', .callL cl ho x hcl hf h1 h2, okB_spec (k := fun c => K c H') h3⟩
    · rename_i g first caps hf
      split at h
      · rename_i l
        obtain ⟨h1, r, H', h2, h3⟩ := bK_spec h
        simp only [Bool.and_eq_true, Array.isEmpty_iff] at h1
        obtain ⟨rfl, rfl⟩ := h1
        exact ⟨r, H', .yield cl ho x hcl hf h2, okB_spec (k := fun c => K c H') h3⟩
      · exact h.elim
    · exact h.elim
  · rename_i hcl
    split at h
    · rename_i x t hx ht
      split at h
      · rename_i e hu
        split at h
        · rename_i n hn
          exact ⟨_, H, .asL (ρ := ρ) <| .same <| .len cl ho hcl x (Array.of_toList hx) (Array.of_toList ht) hu hn, h⟩
        · exact h.elim
      · rename_i hu
        split at h
        · rename_i s hs
          obtain ⟨⟨b⟩⟩ := s
          exact ⟨_, H, .same <| .strLen cl ho hcl x (Array.of_toList hx) (Array.of_toList ht) hu hs, h⟩
        · exact h.elim
      · exact scal h
    · exact h.elim
  · rename_i hcl
    split at h
    · rename_i x y t t' hx ht
      obtain ⟨ht', h⟩ := bK_spec h
      simp only [beq_iff_eq] at ht'
      subst ht'
      split at h
      · rename_i e hu
        split at h
        · rename_i i hi
          split at h
          · rename_i z hz
            exact appendK_spec ho ⟨hcl, Array.of_toList hx, ⟨_, Array.of_toList ht, hu⟩, hi, hz, by simpa using (bK_spec h).1⟩ (bK_spec h).2
          · exact h.elim
        · exact h.elim
      · exact h.elim
    · exact h.elim
  · exact scal h

theorem nilK_spec {op : BinOp} {t : TypeId} {x : Operand} (ho : nilOp o = some (op, t, x)) (h : nilK P H op t (ρ x) K) : ∃ c, OpVc P o ρ H c H ∧ K c H := by
  obtain ⟨t', ho⟩ : ∃ t', o.op = .binOp op t x (.const (.slice none 0 0)) t' := by
    unfold nilOp at ho
    split at ho
    · rename_i h1
      split at ho
      · split at ho
        · cases ho; exact ⟨_, h1⟩
        · cases ho
      · cases ho
    · cases ho
  unfold nilK at h
  split at h
  · rename_i e hu
    split at h
    · rename_i fo sz rows hx
      split at h
      · exact ⟨_, .nilCmp .eql t t' x ho (.inl rfl) hu (.inl ⟨_, _, _, hx, h.1⟩), h.2⟩
      · exact ⟨_, .nilCmp .neq t t' x ho (.inr rfl) hu (.inl ⟨_, _, _, hx, h.1⟩), h.2⟩
      · exact h.elim
    · rename_i hx
      split at h
      · exact ⟨_, .nilCmp .eql t t' x ho (.inl rfl) hu (.inr ⟨_, _, _, _, _, _, hx⟩), h⟩
      · exact ⟨_, .nilCmp .neq t t' x ho (.inr rfl) hu (.inr ⟨_, _, _, _, _, _, hx⟩), h⟩
      · exact h.elim
    · exact h.elim
  · exact h.elim

theorem makeK_spec {t : TypeId} {x y : Operand} (ho : o.op = .makeSlice t x y) (h : makeK P H ρ t x y K) : ∃ c H', OpV P o ρ H c H' ∧ K c H' := by
  unfold makeK at h
  split at h
  · rename_i k n k' n' hx hy
    split at h
    · rename_i e hu
      split at h
      · rename_i i hi
        split at h
        · rename_i cs hz
          obtain ⟨h1, rfl, h2, h3, h4, h5⟩ := bK_spec h
          have h5 := forceN_spec h5
          have h5 := forceN_spec h5
          exact ⟨_, _, .same' (.makeSlice t x y ho hu hi hz h1 hx hy h2 h3 h4) _ (fun e => by cases e) rfl, forceL_spec h5⟩
        · exact h.elim
      · exact h.elim
    · exact h.elim
  · exact h.elim

theorem convK_spec {src dst : TypeId} {x : Operand} (ho : o.op = .convert src dst x) (h : convK P H ρ o src dst x K) : ∃ c, (∀ H2, OpV P o ρ H2 c H2) ∧ K c H := by
  unfold convK at h
  split at h
  · rename_i fo sz rows hx
    split at h
    · rename_i e hs hd
      split at h
      · rename_i he
        obtain ⟨h1, bts, rfl, h2⟩ := bK_spec h
        have h1 := eq_of_beq h1
        subst h1
        exact ⟨_, fun H2 => .asL (ρ := ρ) <| .same <| .convBytes src dst x ho hs he hd hx, h2⟩
      · exact h.elim
    · exact h.elim
  · exact scalar_spec h

theorem stepC_spec (h : stepC P H ρ o K) : ∃ c H', OpV P o ρ H c H' ∧ K c H' := by
  unfold stepC at h
  split at h
  · rename_i x ho
    exact ⟨_, H, .same <| .move x (.inl ho), forceC_spec (k := fun c => K c H) h⟩
  · rename_i x ho
    exact ⟨_, H, .same <| .move x (.inr ho), forceC_spec (k := fun c => K c H) h⟩
  · rename_i x y z ho
    split at h
    · rename_i b hb
      exact ⟨_, H, .same <| .pick x y z ho b hb, forceC_spec (k := fun c => K c H) h⟩
    · exact h.elim
  · rename_i t ho
    split at h
    · rename_i cs hz
      have h := forceL_spec (k := fun cs => forceN cs.length fun n => forceN H.length fun m => forceL (H ++ [⟨1, t, n, [cs], 0⟩]) fun H' => K (.ref m [] n 0 0) H') h
      have h := forceN_spec (k := fun n => forceN H.length fun m => forceL (H ++ [⟨1, t, n, [cs], 0⟩]) fun H' => K (.ref m [] n 0 0) H') h
      have h := forceN_spec (k := fun m => forceL (H ++ [⟨1, t, cs.length, [cs], 0⟩]) fun H' => K (.ref m [] cs.length 0 0) H') h
      exact ⟨_, _, .same' (.alloc t ho hz) _ (fun e => by cases e) rfl, forceL_spec (k := fun H' => K (.ref H.length [] cs.length 0 0) H') h⟩
    · exact h.elim
  · rename_i t x ho
    obtain ⟨h0, h⟩ := bK_spec h
    have h := eachK_spec (fun _ _ h => forceC_spec h) (k := fun cs => forceN cs.length fun n => forceN H.length fun m => forceL (H ++ [⟨1, t, n, [cs], 0⟩]) fun H' => K (.ref m [] n 0 0) H') h
    have h := forceN_spec (k := fun n => forceN H.length fun m => forceL (H ++ [⟨1, t, n, [(ρ x).cells], 0⟩]) fun H' => K (.ref m [] n 0 0) H') h
    have h := forceN_spec (k := fun m => forceL (H ++ [⟨1, t, (ρ x).cells.length, [(ρ x).cells], 0⟩]) fun H' => K (.ref m [] (ρ x).cells.length 0 0) H') h
    exact ⟨_, _, .same' (.box t x ho h0) _ (fun e => by cases e) rfl, forceL_spec (k := fun H' => K (.ref H.length [] (ρ x).cells.length 0 0) H') h⟩
  · rename_i t x f ho; obtain ⟨c, h1, h2⟩ := fieldK_spec ho h; exact ⟨c, H, h1 H, h2⟩
  · rename_i t x y ho; obtain ⟨c, h1, h2⟩ := indexK_spec (ρ := fun x => asL (ρ x)) ho h; exact ⟨c, H, (h1 H).asL, h2⟩
  · rename_i t x y ho; obtain ⟨c, h1, h2⟩ := indexV_spec ho h; exact ⟨c, H, h1 H, h2⟩
  · rename_i t x ho
    obtain ⟨c, h1, h2⟩ := loadK_spec h
    exact ⟨c, H, .same <| .load t x ho h1, h2⟩
  · rename_i t x y ho
    split at h
    · obtain ⟨H', h1, h2⟩ := storeK_spec h
      exact ⟨_, H', .storeS t x y ho h1, h2⟩
    · obtain ⟨H', h1, h2⟩ := storeK_spec h
      exact ⟨_, H', .of0 (.store t x y ho h1) (storeH_keep h1), h2⟩
  · rename_i x n ho
    split at h
    · rename_i vs hx
      split at h
      · rename_i c hc
        exact ⟨c, H, .same <| .extract x n ho hx hc, forceC_spec (k := fun c => K c H) (okB_spec (k := fun c => forceC c fun c => K c H) h)⟩
      · exact h.elim
    · exact h.elim
  · rename_i x ho
    exact ⟨_, H, .same <| .nilCheck x ho (bK_spec h).1, forceC_spec (k := fun c => K c H) (bK_spec h).2⟩
  · rename_i f first caps ho
    split at h
    · have h := eachK_spec (fun _ _ h => forceC_spec h) h
      exact ⟨_, H, .same <| .makeFunc _ first caps ho, eachK_spec (fun _ _ h => forceC_spec h) (k := fun b => K (.fn _ (first.toList.map ρ) b) H) h⟩
    · exact h.elim
  · rename_i t parts ho
    split at h
    · rename_i cs hc
      exact ⟨_, H, .same <| .build t parts ho hc, eachK_spec (fun _ _ h => forceC_spec h) (k := fun cs => K (.agg cs) H) h⟩
    · exact h.elim
  · rename_i t len parts ho
    split at h
    · rename_i c hc
      split at h
      · rename_i o' sz rows
        have h := eachK_spec (fun _ _ h => eachK_spec (fun _ _ h => forceC_spec h) h) (k := fun rows => forceN sz fun sz => K (.lst o' sz rows) H) h
        exact ⟨_, H, .asL (ρ := ρ) <| .same <| .buildSlice t len parts ho hc, forceN_spec (k := fun sz => K (.lst o' sz rows) H) h⟩
      · exact h.elim
    · exact h.elim
  · rename_i t x lo hi mx ho; obtain ⟨c, h1, h2⟩ := sliceK_spec (ρ := fun x => asL (ρ x)) ho h; exact ⟨c, H, (h1 H).asL, h2⟩
  · rename_i t x y ho; exact makeK_spec ho h
  · exact h
  · exact h
  · exact h
  · exact h
  · rename_i cl ho; exact callK_spec ho h
  · rename_i op t x y t' ho
    split at h
    · rename_i xs ys hx hy
      obtain ⟨h1, h⟩ := h
      simp only [Bool.and_eq_true, Bool.not_eq_true'] at h1
      split at h
      · rename_i b hb
        split at h
        · exact ⟨_, H, .same <| .eqStruct .eql t t' x y ho (.inl rfl) h1.1 h1.2 hx hy hb, okB_spec (k := fun c => K c H) h⟩
        · exact ⟨_, H, .same <| .eqStruct .neq t t' x y ho (.inr rfl) h1.1 h1.2 hx hy hb, okB_spec (k := fun c => K c H) h⟩
        · exact h.elim
      · exact h.elim
    · rename_i s s' hx hy
      obtain ⟨⟨a⟩⟩ := s
      obtain ⟨⟨b⟩⟩ := s'
      obtain ⟨c, h1, h2⟩ := strK_spec ho hx hy h
      exact ⟨c, H, h1 H, h2⟩
    · obtain ⟨c, h1, h2⟩ := scalar_spec h; exact ⟨c, H, h1 H, h2⟩
  · rename_i src dst x ho; obtain ⟨c, h1, h2⟩ := convK_spec ho h; exact ⟨c, H, h1 H, h2⟩
  · split at h
    · rename_i v e
      obtain ⟨h1, h2⟩ := bK_spec h
      simp only [Bool.and_eq_true, Array.all_toList] at h1
      exact ⟨.v v, H, .same <| .scalar h1.1.1 h1.1.2 e h1.2, litB_spec (k := fun c => K c H) h2⟩
    · exact h.elim
  · obtain ⟨c, h1, h2⟩ := scalar_spec h; exact ⟨c, H, h1 H, h2⟩

end
end Go.Ab
