/- What an operation yields over an abstract state: scalars; new variables. -/
import Derived.Test.YtbndjpkncgfpiaaAb2
namespace Go.Ab
set_option linter.unusedVariables false

/-- What is asked behind an operation: a value, nothing, or a call that hands back a value. -/
def upV (P : Program) (K : Value → World → Prop) : Result Next → Prop
  | .ok (.value v) w => K v w
  | .ok .skip w => K undef w
  | .ok (.enter f args) w => Calls P f args w fun e w' => ∃ v, e = .returned v ∧ K v w'
  | .ok (.round l f tmps assign body) w => RoundIn (fw none) 0 P l f tmps assign body w fun e w' => ∃ v, e = .returned v ∧ K v w'
  | _ => False

/-- **An operation whose operands stand for these yields this, and makes the heap that.** -/
def OpV (P : Program) (o : Oper) (ρ : Operand → C) (H : Heap) (c : C) (H' : Heap) : Prop :=
  ∀ (w : World) (E : Env) (σ : Operand → Value), HRel w E H → (∀ x ∈ o.op.operands, L E (ρ x) (σ x)) →
    ∀ K : Value → World → Prop, (∀ v w' E', HRel w' E' H' → L E' c v → Grow w E H w' E' H' → K v w') → upV P K ((execOp σ o).run P w)

/-- **An operation whose operands stand for these yields this, and makes the heap that; growing rows aside.** -/
def OpV0 (P : Program) (o : Oper) (ρ : Operand → C) (H : Heap) (c : C) (H' : Heap) : Prop :=
  ∀ (w : World) (E : Env) (σ : Operand → Value), HRel0 w E H → (∀ x ∈ o.op.operands, L E (ρ x) (σ x)) →
    ∀ K : Value → World → Prop, (∀ v w' E', HRel0 w' E' H' → L E' c v → Grow0 w E H w' E' H' → K v w') → upV P K ((execOp σ o).run P w)

theorem upV_mono {P : Program} {K K' : Value → World → Prop} {r : Result Next} (h : upV P K r) (hk : ∀ v w, K v w → K' v w) : upV P K' r := by
  unfold upV at *
  split at h
  · exact hk _ _ h
  · exact hk _ _ h
  · exact h.mono fun e w' ⟨v, he, hv⟩ => ⟨v, he, hk _ _ hv⟩
  · exact RoundIn.mono h fun e w' ⟨v, he, hv⟩ => ⟨v, he, hk _ _ hv⟩
  · exact h.elim

/-- The same, where constants are what they are. -/
def OpVc (P : Program) (o : Oper) (ρ : Operand → C) (H : Heap) (c : C) (H' : Heap) : Prop :=
  ∀ (w : World) (E : Env) (σ : Operand → Value), HRel w E H → (∀ x ∈ o.op.operands, L E (ρ x) (σ x)) → (∀ v, σ (.const v) = v) →
    ∀ K : Value → World → Prop, (∀ v w' E', HRel w' E' H' → L E' c v → Grow w E H w' E' H' → K v w') → upV P K ((execOp σ o).run P w)

/-- The same, to one of several. -/
def OpVR (P : Program) (o : Oper) (ρ : Operand → C) (H : Heap) (R : C → Heap → Prop) : Prop :=
  ∀ (w : World) (E : Env) (σ : Operand → Value), HRel w E H → (∀ x ∈ o.op.operands, L E (ρ x) (σ x)) → (∀ v, σ (.const v) = v) →
    ∀ K : Value → World → Prop, (∀ c H' v w' E', R c H' → HRel w' E' H' → L E' c v → Grow w E H w' E' H' → K v w') → upV P K ((execOp σ o).run P w)

theorem OpVc.toR {P : Program} {o : Oper} {ρ : Operand → C} {H H' : Heap} {c : C} {R : C → Heap → Prop} (h : OpVc P o ρ H c H') (hR : R c H') : OpVR P o ρ H R := fun w E σ hh hl hc K hk => h w E σ hh hl hc K fun v w' E' => hk c H' v w' E' hR
theorem OpV.toR {P : Program} {o : Oper} {ρ : Operand → C} {H H' : Heap} {c : C} {R : C → Heap → Prop} (h : OpV P o ρ H c H') (hR : R c H') : OpVR P o ρ H R := fun w E σ hh hl _ K hk => h w E σ hh hl K fun v w' E' => hk c H' v w' E' hR

theorem RunOp.of_OpVR {P : Program} {B : Nat} {o : Oper} {s : S} {R : C → Heap → Prop} (h : OpVR P o (ev s.tmps) s.H R) : RunOp P B o s (fun s' => ∃ c H', R c H' ∧ s' = ⟨put s.tmps o.dst c, H'⟩) := fun q m w E a K Q hs hk => by
  have := h w E a.eval hs.heap (fun x _ => ev_L hs.tmps x) (fun _ => rfl) (fun v w' => K (a.put o.dst v) w') fun c H' v w' E' hR h1 h2 g =>
    hk _ w' E' _ ⟨c, H', hR, rfl⟩ ⟨h1, put_LL (hs.tmps.mono g.le) h2 o.dst, by have := hs.defers.grow hs.heap g; cases o.dst <;> exact this, by have := g.le.n; rw [hs.heap.n, h1.n] at this; exact Nat.le_trans hs.base this⟩ (g.toB (by rw [hs.heap.n]; exact hs.base))
  have hnd : ∀ d, o.op ≠ .defer d := fun d hd => by
    have h2 := this
    unfold execOp at h2
    simp only [hd, Sem.run_bind] at h2
    cases hr : (resolve a.eval d o.type).run P w with
    | ok x w1 => simp [hr, Result.andThen, upV] at h2
    | halt x w1 => simp [hr, Result.andThen, upV] at h2
  unfold Oper.wpIn
  refine ⟨fun _ _ => trivial, ?_⟩
  rw [Oper.semAt_eq _ _ _ hnd]
  generalize (execOp a.eval o).run P w = r at this ⊢
  unfold upV at this
  split at this
  · exact this
  · exact this
  · rw [Oper.uponIn_enter]
    refine ⟨fun h => (by cases h), callsIn_wide.2 (Calls.mono this ?_)⟩
    rintro e w' ⟨v, rfl, hv⟩
    exact hv
  · rw [Oper.uponIn_round]
    refine ⟨fun h => (by cases h), RoundIn.mono (F := fw q) this ?_⟩
    rintro e w' ⟨v, rfl, hv⟩
    exact hv
  · exact this.elim

/-- An operation that takes a state to just this one. -/
theorem RunOp.of_OpV {P : Program} {B : Nat} {o : Oper} {s : S} {c : C} {H' : Heap} (h : OpV P o (ev s.tmps) s.H c H') (q : Option Nat) (m : Nat) (w : World) (E : Env) (a : Act) (K : Act → World → Prop) (Q : Exit → Act → World → Prop) (hs : SRel B m w E s a)
    (hq : ∀ w' E' a', SRel B m w' E' ⟨put s.tmps o.dst c, H'⟩ a' → GrowB B w E s.H w' E' H' → K a' w') : o.wpIn (fw q) 0 P a w K Q :=
  RunOp.of_OpVR (B := B) (h.toR (R := fun x X => x = c ∧ X = H') ⟨rfl, rfl⟩) q m w E a K Q hs fun s' w' E' a' ⟨x, X, ⟨e1, e2⟩, e3⟩ h1 g1 => by subst e1 e2 e3; exact hq w' E' a' h1 g1

theorem OpV.congr {P : Program} {o : Oper} {ρ ρ' : Operand → C} {H H' : Heap} {c : C} (h : OpV P o ρ H c H') (he : ∀ x ∈ o.op.operands, ρ' x = ρ x) : OpV P o ρ' H c H' :=
  fun w E σ hh hl K hk => h w E σ hh (fun x hx => he x hx ▸ hl x hx) K hk

theorem OpV0.congr {P : Program} {o : Oper} {ρ ρ' : Operand → C} {H H' : Heap} {c : C} (h : OpV0 P o ρ H c H') (he : ∀ x ∈ o.op.operands, ρ' x = ρ x) : OpV0 P o ρ' H c H' :=
  fun w E σ hh hl K hk => h w E σ hh (fun x hx => he x hx ▸ hl x hx) K hk

/-- **What leaves growing rows alone.** -/
theorem OpV.of0 {P : Program} {o : Oper} {ρ : Operand → C} {H H' : Heap} {c : C} (h : OpV0 P o ρ H c H') (hk : Keep4 H H') : OpV P o ρ H c H' := fun w E σ hh hl K hK =>
  h w E σ hh.base hl K fun v w' E' h1 h2 g => hK v w' E' ⟨h1, Gro.step hh g hk⟩ h2 (g.up hh hk)
theorem OpV.same {P : Program} {o : Oper} {ρ : Operand → C} {H : Heap} {c : C} (h : OpV0 P o ρ H c H) : OpV P o ρ H c H := .of0 h (Keep4.refl H)

theorem Keep4.push (H : Heap) (ob : Ob) (hk : ob.kind ≠ 4) : Keep4 H (H ++ [ob]) := fun id ob' h4 => by
  by_cases hlt : id < H.length
  · rw [List.getElem?_append_left hlt]
  · rw [List.getElem?_append_right (by omega), List.getElem?_eq_none (l := H) (by omega)]
    constructor
    · intro h
      cases hd : id - H.length with
      | zero => rw [hd] at h; cases h; exact absurd h4 hk
      | succ n => rw [hd] at h; simp at h
    · intro h; cases h
theorem Keep4.modify (H : Heap) (id : Nat) (f : Ob → Ob) (hf : ∀ ob, H[id]? = some ob → ob.kind ≠ 4 ∧ (f ob).kind ≠ 4) : Keep4 H (H.modify id f) := fun id' ob' h4 => by
  rw [List.getElem?_modify]
  by_cases he : id = id'
  · subst he
    cases hx : H[id]? with
    | none => simp
    | some ob =>
      obtain ⟨h1, h2⟩ := hf ob hx
      simp only [Option.map_eq_map, Option.map_some, if_true]
      constructor
      · intro h; cases h; exact absurd h4 h2
      · intro h; cases h; exact absurd h4 h1
  · cases hx : H[id']? with
    | none => simp
    | some ob => simp [he]
theorem Keep4.trans {H H' H'' : Heap} (h : Keep4 H H') (h' : Keep4 H' H'') : Keep4 H H'' := fun id ob h4 => (h' id ob h4).trans (h id ob h4)

/-! ### Scalars: the model's own operation, run as far as it asks the program alone -/

def runP (P : Program) {α : Type} : Sem α → Option α
  | .pure a => some a
  | .program k => runP P (k P)
  | _ => none

theorem runP_run {P : Program} {α : Type} (e : Sem α) {a : α} (h : runP P e = some a) (w : World) : e.run P w = .ok a w := by
  induction e with
  | pure a' => simp only [runP, Option.some.injEq] at h; subst h; rfl
  | program k ih => simp only [runP] at h; exact ih P h
  | _ => simp [runP] at h

/-- The values of operands that are plain ones. -/
def sval : C → Value
  | .v x => x
  | _ => undef

def isV : C → Bool
  | .v _ => true
  | _ => false

def notSelect (o : Oper) : Bool := match o.op with | .select .. => false | _ => true

theorem OpV0.scalar {P : Program} {o : Oper} {ρ : Operand → C} {H : Heap} {v : Value} (hs : notSelect o = true) (hv : o.op.operands.all (fun x => isV (ρ x)) = true)
    (hr : runP P (execOp (fun x => sval (ρ x)) o) = some (.value v)) (h1 : v.oneCell' = true) : OpV0 P o ρ H (.v v) H := fun w E σ hh hl K hk => by
  have he : execOp σ o = execOp (fun x => sval (ρ x)) o := execOp_congr o (fun cs b hc => by simp [notSelect, hc] at hs) fun x hx => by
    have h1 : isV (ρ x) = true := by
      have := Array.all_eq_true_iff_forall_mem.1 hv x hx
      simpa using this
    have h2 := hl x hx
    cases hc : ρ x with
    | v y => rw [hc] at h2; cases h2; rfl
    | _ => rw [hc] at h1; cases h1
  rw [he, runP_run _ hr w]
  exact hk v w E hh (.v v h1) (Grow0.refl w E H)

/-! ### The world with a new block; a new object -/

theorem cell_alloc {w : World} {o : Obj} {b off : Nat} (h : b < w.heap.size) : (w.alloc o).cell? ⟨b, off, none⟩ = w.cell? ⟨b, off, none⟩ :=
  World.cell?_alloc_lt _ _ _ h

theorem cell_lt {w : World} {b off : Nat} {u : Value} (h : w.cell? ⟨b, off, none⟩ = some u) : b < w.heap.size := World.block_lt_of_cell? w _ h

/-- A new object, known by the number 'E.n', in block 'g', with room for so many rows. -/
def Env.push (E : Env) (g κ : Nat) : Env :=
  { n := E.n + 1, β := fun id hops => if id = E.n then g else E.β id hops, κ := fun id hops => if id = E.n then κ else E.κ id hops, St := E.St, G := E.G }

theorem Env.push_le (E : Env) (g κ : Nat) : E.le (E.push g κ) :=
  ⟨Nat.le_succ _, fun id hops h => by simp [Env.push, Nat.ne_of_lt h], fun id hops h => by simp [Env.push, Nat.ne_of_lt h], fun b o u h => h, fun _ _ _ _ h => h⟩

def noOwn : C → Bool
  | .lst 2 _ _ => false
  | _ => true

theorem CellOK.loose {E : Env} {kd id : Nat} {hops : List Hop} {i k : Nat} {c : C} {u : Value} (hn : noOwn c = true) : CellOK E kd id hops i k c u ↔ L (E.at kd) c u ∧ u.oneCell' = true := by
  unfold CellOK
  split
  · simp [noOwn] at hn
  · rfl

theorem CellOK.mono {E E' : Env} (h : E.le E') {kd id : Nat} (hid : id < E.n) {hops : List Hop} {i k : Nat} {c : C} {u : Value} (hc : CellOK E kd id hops i k c u) : CellOK E' kd id hops i k c u := by
  unfold CellOK at *
  split at hc
  · rw [h.β id _ hid, h.κ id _ hid]; exact hc
  · exact ⟨hc.1.mono (h.at kd), hc.2⟩

theorem getB_lt {H : Heap} {id : Nat} {hops : List Hop} {x : Nat × List (List C)} (h : getB H id hops = some x) : id < H.length := by
  unfold getB at h
  split at h
  · rename_i ob ho; exact (List.getElem?_eq_some_iff.1 ho).1
  · cases h

theorem getB_ob {H : Heap} {id : Nat} {hops : List Hop} {x : Nat × List (List C)} (h : getB H id hops = some x) : ∃ ob, H[id]? = some ob ∧ (ob.kind = 1 ∨ ob.kind = 2) ∧ getT ob.sz ob.rows hops = some x := by
  unfold getB at h
  split at h
  · rename_i ob ho
    split at h
    · rename_i hk; exact ⟨ob, ho, hk, h⟩
    · cases h
  · cases h

theorem HRel0.lt {w : World} {E : Env} {H : Heap} (h : HRel0 w E H) {id : Nat} {hops : List Hop} {x : Nat × List (List C)} (hx : getB H id hops = some x) : E.β id hops < w.heap.size := by
  obtain ⟨ob, ho, _, _⟩ := getB_ob hx
  obtain ⟨cur, e, hg, _⟩ := (h.blk id ob hops x.1 x.2 ho (by simpa using hx)).blk
  exact (Array.getElem?_eq_some_iff.1 hg).1

theorem getB_append {H : Heap} {id : Nat} {hops : List Hop} (h : id < H.length) (X : Heap) : getB (H ++ X) id hops = getB H id hops := by
  unfold getB
  rw [List.getElem?_append_left h]

theorem BlkOK.heap_lt {w : World} {E : Env} {kd id : Nat} {hops : List Hop} {sz : Nat} {rows : List (List C)} (h : BlkOK w E kd id hops sz rows) : E.β id hops < w.heap.size := by
  obtain ⟨cur, e, hg, _⟩ := h.blk
  exact (Array.getElem?_eq_some_iff.1 hg).1

theorem BlkOK.step {w w' : World} {E E' : Env} (hle : E.le E') {kd id : Nat} (hid : id < E.n) {hops : List Hop} {sz : Nat} {rows : List (List C)} (h : BlkOK w E kd id hops sz rows)
    (hh : w'.heap[E.β id hops]? = w.heap[E.β id hops]?) : BlkOK w' E' kd id hops sz rows := by
  obtain ⟨cur, e, hg, hsz, hc⟩ := h.blk
  refine ⟨by rw [hle.κ id hops hid]; exact h.len, h.row, cur, e, by rw [hle.β id hops hid, hh]; exact hg, by rw [hle.κ id hops hid]; exact hsz, ?_⟩
  intro i k c hcc
  obtain ⟨u, hu, ho⟩ := hc i k c hcc
  exact ⟨u, hu, ho.mono hle hid⟩

theorem getT_flat {sz : Nat} {rows : List (List C)} (hn : ∀ i k c, cellAt rows i k = some c → noOwn c = true) {hops : List Hop} {x : Nat × List (List C)} (h : getT sz rows hops = some x) : hops = [] ∧ x = (sz, rows) := by
  cases hops with
  | nil => simp [getT] at h; exact ⟨rfl, h.symm⟩
  | cons hd tl =>
    obtain ⟨i, k⟩ := hd
    simp only [getT] at h
    split at h
    · rename_i h1; have := hn _ _ _ h1; simp [noOwn] at this
    · cases h

/-- **A new block becomes a new object.** -/
theorem HRel0.push {w : World} {E : Env} {H : Heap} (h : HRel0 w E H) (kind : Nat) (ty : TypeId) (sz κ : Nat) (rows : List (List C)) (cur : Array Value) (hk : kind = 1 ∨ kind = 2) (hrow : ∀ r ∈ rows, r.length = sz)
    (hlen : rows.length ≤ κ) (hcur : cur.size = κ * sz) (hn : ∀ i k c, cellAt rows i k = some c → noOwn c = true)
    (hc : ∀ i k c, cellAt rows i k = some c → ∃ u, cur[i * sz + k]? = some u ∧ L (E.at kind) c u ∧ u.oneCell' = true) :
    HRel0 (w.alloc (.cells cur ty)) (E.push w.heap.size κ) (H ++ [⟨kind, ty, sz, rows, 0⟩]) ∧ Grow0 w E H (w.alloc (.cells cur ty)) (E.push w.heap.size κ) (H ++ [⟨kind, ty, sz, rows, 0⟩]) := by
  have hle := E.push_le w.heap.size κ
  have get : ∀ id hops x, getB (H ++ [⟨kind, ty, sz, rows, 0⟩]) id hops = some x → (id < H.length ∧ getB H id hops = some x) ∨ (id = H.length ∧ hops = [] ∧ x = (sz, rows)) := by
    intro id hops x hx
    by_cases hlt : id < H.length
    · exact .inl ⟨hlt, by rw [getB_append hlt] at hx; exact hx⟩
    · have h1 := getB_lt hx
      simp at h1
      have : id = H.length := by omega
      subst this
      simp only [getB, List.getElem?_append_right (Nat.le_refl _), Nat.sub_self, List.getElem?_cons_zero] at hx
      rw [if_pos hk] at hx
      obtain ⟨e1, e2⟩ := getT_flat hn hx
      exact .inr ⟨rfl, e1, e2⟩
  have hnew : ∀ hops, (E.push w.heap.size κ).β H.length hops = w.heap.size := fun hops => by simp [Env.push, h.n]
  have hold : ∀ id hops, id < H.length → (E.push w.heap.size κ).β id hops = E.β id hops := fun id hops hlt => hle.β id hops (by rw [h.n]; exact hlt)
  refine ⟨⟨by simp [Env.push, h.n], ?_, ?_, ?_, ?_, ?_, ?_⟩, ⟨hle, fun _ _ _ => rfl, rfl, rfl, rfl, by show _ ≤ (w.heap.push _).size; simp, ?_, ?_, ?_⟩⟩
  · intro id ob hops sz' rows' hob hx
    rcases get id hops _ hx with ⟨hlt, hx'⟩ | ⟨rfl, rfl, hx'⟩
    · rw [List.getElem?_append_left hlt] at hob
      have hb := h.blk id ob hops sz' rows' hob hx'
      exact hb.step hle (by rw [h.n]; exact hlt) (heap_alloc_old w _ hb.heap_lt)
    · cases hx'
      simp at hob
      subst hob
      refine ⟨by simp [Env.push, h.n, hlen], hrow, cur, ty, by rw [hnew]; exact heap_alloc_new w _, by simp [Env.push, h.n, hcur], ?_⟩
      intro i k c hcc
      obtain ⟨u, hu, hl, ho⟩ := hc i k c hcc
      exact ⟨u, hu, (CellOK.loose (hn i k c hcc)).2 ⟨hl.mono (hle.at kind), ho⟩⟩
  · intro id hops id' hops' x y hx hy he
    rcases get id hops _ hx with ⟨hlt, hx'⟩ | ⟨rfl, rfl, hx'⟩ <;> rcases get id' hops' _ hy with ⟨hlt', hy'⟩ | ⟨rfl, rfl, hy'⟩
    · rw [hold id hops hlt, hold id' hops' hlt'] at he
      exact h.inj id hops id' hops' x y hx' hy' he
    · rw [hold id hops hlt, hnew] at he
      have := h.lt hx'
      omega
    · rw [hold id' hops' hlt', hnew] at he
      have := h.lt hy'
      omega
    · exact ⟨rfl, rfl⟩
  · intro b o u hu
    have hs := h.stable b o u hu
    rw [cell_alloc (cell_lt hs.1)]
    exact hs
  · intro id hops x o u hx hu
    rcases get id hops _ hx with ⟨hlt, hx'⟩ | ⟨rfl, rfl, hx'⟩
    · rw [hold id hops hlt] at hu
      obtain ⟨e1, ob, e2, e3⟩ := h.sep id hops x o u hx' hu
      exact ⟨e1, ob, by rw [List.getElem?_append_left hlt]; exact e2, e3⟩
    · rw [hnew] at hu
      have := cell_lt (h.stable _ _ _ hu).1
      omega
  · intro id ob hob hkd
    by_cases hlt : id < H.length
    · rw [List.getElem?_append_left hlt] at hob
      obtain ⟨cur', hc'⟩ := h.ty id ob hob hkd
      refine ⟨cur', ?_⟩
      rw [hold id [] hlt, heap_alloc_old w _ (Array.getElem?_eq_some_iff.1 hc').1]
      exact hc'
    · have h1 := (List.getElem?_eq_some_iff.1 hob).1
      simp at h1
      have : id = H.length := by omega
      subst this
      simp at hob
      subst hob
      exact ⟨cur, by rw [hnew]; exact heap_alloc_new w _⟩
  · intro id ob hob
    by_cases hlt : id < H.length
    · rw [List.getElem?_append_left hlt] at hob
      exact h.fz id ob hob
    · have h1 := (List.getElem?_eq_some_iff.1 hob).1
      simp at h1
      have : id = H.length := by omega
      subst this
      simp at hob
      subst hob
      exact Nat.zero_le _
  · intro k hk' ho
    exact heap_alloc_old w _ hk'
  · intro b o u hu
    exact .inl hu
  · rintro b ⟨id, hops, x, hx, rfl⟩
    rcases get id hops _ hx with ⟨hlt, hx'⟩ | ⟨rfl, rfl, hx'⟩
    · exact .inr ⟨id, hops, x, hx', by rw [hold id hops hlt]⟩
    · exact .inl (by rw [hnew]; exact Nat.le_refl _)

end Go.Ab
