/- Slices cut, over an abstract state. -/
import Derived.Test.YtbndjpkncgfpiaaAbD
namespace Go.Ab
set_option linter.unusedVariables false

section
variable {P : Program} {o : Oper} {ρ : Operand → C} {H : Heap}

theorem run_sliceBound {k : IntKind} {n y : Nat} {code : BoundsCode} (h : n ≤ y) (w : World) : (Instr.sliceBound (.int k n) y code).run P w = .ok n w := by
  simp [Instr.sliceBound, asIntOf, h]

/-- A bound, or what stands for it. -/
def IsB (ρ : Operand → C) (x : Option Operand) (dflt n : Nat) : Prop :=
  match x with
  | none => n = dflt
  | some y => ∃ k, ρ y = .v (.int k n)

theorem run_bounds2 {σ : Operand → Value} {len cap : Nat} {lo hi : Option Operand} {l h : Nat} (hl : ∀ y, lo = some y → ∃ k, σ y = .int k l) (hl0 : lo = none → l = 0) (hh : ∀ y, hi = some y → ∃ k, σ y = .int k h) (hh0 : hi = none → h = len)
    (h1 : l ≤ h) (h2 : h ≤ cap) (w : World) : (Instr.sliceBounds true len cap (lo.map σ) (hi.map σ) none).run P w = .ok (l, h, cap) w := by
  unfold Instr.sliceBounds
  cases lo with
  | none =>
    obtain rfl := hl0 rfl
    cases hi with
    | none => obtain rfl := hh0 rfl; simp
    | some y => obtain ⟨k, e⟩ := hh y rfl; simp [e, run_sliceBound h2]
  | some x =>
    obtain ⟨k0, e0⟩ := hl x rfl
    cases hi with
    | none => obtain rfl := hh0 rfl; simp [e0, run_sliceBound h1]
    | some y => obtain ⟨k, e⟩ := hh y rfl; simp [e, e0, run_sliceBound h2, run_sliceBound h1]

theorem run_bounds3 {σ : Operand → Value} {len cap : Nat} {lo : Option Operand} {hi mx : Operand} {l h m : Nat} (hl : ∀ y, lo = some y → ∃ k, σ y = .int k l) (hl0 : lo = none → l = 0) (hh : ∃ k, σ hi = .int k h) (hm : ∃ k, σ mx = .int k m)
    (h1 : l ≤ h) (h2 : h ≤ m) (h3 : m ≤ cap) (w : World) : (Instr.sliceBounds true len cap (lo.map σ) (some (σ hi)) (some (σ mx))).run P w = .ok (l, h, m) w := by
  unfold Instr.sliceBounds
  obtain ⟨k, e⟩ := hh
  obtain ⟨k', e'⟩ := hm
  cases lo with
  | none => obtain rfl := hl0 rfl; simp [e, e', run_sliceBound h2, run_sliceBound h3]
  | some x => obtain ⟨k0, e0⟩ := hl x rfl; simp [e, e', e0, run_sliceBound h2, run_sliceBound h1, run_sliceBound h3]

theorem IsB.val {E : Env} {σ : Operand → Value} {x : Option Operand} {d n : Nat} (h : IsB ρ x d n) (hl : ∀ y, x = some y → L E (ρ y) (σ y)) : (∀ y, x = some y → ∃ k, σ y = .int k n) ∧ (x = none → n = d) := by
  unfold IsB at h
  cases x with
  | none => exact ⟨fun y e => (by cases e), fun _ => h⟩
  | some y =>
    refine ⟨fun z e => ?_, fun e => (by cases e)⟩
    cases e
    obtain ⟨k, e⟩ := h
    have := hl y rfl
    rw [e] at this
    refine ⟨k, ?_⟩
    generalize σ y = u at *
    cases this
    rfl

/-- A list by value, cut: the value's own shape. -/
theorem lst_cut {E : Env} {o sz : Nat} {rows : List (List C)} {y : Value} (h : L E (.lst o sz rows) y) : ∃ a cap, y = .slice a rows.length cap ∧ rows.length ≤ cap ∧ (o = 1 → cap = rows.length) ∧
    ∀ (l h m o' : Nat), l ≤ h → h ≤ rows.length → m ≤ cap → h ≤ m → (o' = 0 ∨ o' = 1 ∧ m = h) → L E (.lst o' sz ((rows.drop l).take (h - l))) (.slice (if m = l then a else a.map (·.add (l * sz))) (h - l) (m - l)) := by
  cases h with
  | lst o sz rows b off cap us ho hc hsz hst hL =>
    refine ⟨_, cap, rfl, hc, fun e => by subst e; exact (ho.resolve_left (by decide)).2, ?_⟩
    intro l h m o' h1 h2 h3 h4 ho'
    have hlen : ((rows.drop l).take (h - l)).length = h - l := by simp; omega
    have ho2 : o' = 0 ∨ o' = 1 ∧ m - l = ((rows.drop l).take (h - l)).length := by
      rw [hlen]; rcases ho' with e | ⟨e, e2⟩
      · exact .inl e
      · exact .inr ⟨e, by omega⟩
    by_cases hm : m = l
    · rw [if_pos hm]
      have : h = l := by omega
      subst this
      subst hm
      simp only [Nat.sub_self, List.take_zero] at ho2 ⊢
      exact .lst o' sz [] b off 0 (fun _ _ => undef) (by simpa using ho2) (Nat.le_refl _) (by simp) (by simp) (by simp)
    · rw [if_neg hm, Option.map_some, addr_add]
      have := L.lst (E := E) o' sz ((rows.drop l).take (h - l)) b (off + l * sz) (m - l) (fun i k => us (l + i) k) ho2 (by rw [hlen]; omega) (fun r hr => hsz r (List.mem_of_mem_drop (List.mem_of_mem_take hr))) ?_ ?_
      · rw [hlen] at this; exact this
      · intro i r k c hr hk
        rw [List.getElem?_take] at hr
        split at hr
        · rw [List.getElem?_drop] at hr
          have := hst (l + i) r k c hr hk
          rw [Nat.add_mul] at this
          rw [show off + l * sz + i * sz + k = off + (l * sz + i * sz) + k from by omega]
          exact this
        · cases hr
      · intro i r k c hr hk
        rw [List.getElem?_take] at hr
        split at hr
        · rw [List.getElem?_drop] at hr
          exact hL (l + i) r k c hr hk
        · cases hr
  | lnil o sz ho a =>
    refine ⟨a, 0, rfl, Nat.le_refl _, fun _ => rfl, ?_⟩
    intro l h m o' h1 h2 h3 h4 ho'
    simp at h2 h3
    subst h2; subst h3
    obtain rfl : l = 0 := by omega
    simp
    exact .lnil o' sz (by rcases ho' with e | e; exact .inl e; exact .inr e.1) a

/-- l[lo:hi], of a list by value: full, if it was and goes to its end. -/
theorem OpV0.sliceLst (t : TypeId) (x : Operand) (lo hi : Option Operand) (ho : o.op = .slice t x lo hi none) {e : TypeId} {i : TypeInfo} (ht : P.underlying t = some (.slice e)) (hi' : P.info? e = some i) {fo sz : Nat} {rows : List (List C)}
    (hx : ρ x = .lst fo sz rows) (hsz : rows = [] ∨ sz = i.size) {l h : Nat} (hl' : IsB ρ lo 0 l) (hh' : IsB ρ hi rows.length h) (h1 : l ≤ h) (h2 : h ≤ rows.length) :
    OpV0 P o ρ H (.lst (if fo = 1 ∧ h = rows.length then 1 else 0) sz ((rows.drop l).take (h - l))) H := fun w E σ hh hl K hk => by
  have h0 := hl x (by simp [ho, Op.operands])
  rw [hx] at h0
  obtain ⟨a, cap, e1, e2, e3, e4⟩ := lst_cut h0
  obtain ⟨b1, b2⟩ := hl'.val (E := E) (σ := σ) (fun y e => hl y (by subst e; simp [ho, Op.operands]))
  obtain ⟨b3, b4⟩ := hh'.val (E := E) (σ := σ) (fun y e => hl y (by subst e; simp [ho, Op.operands]))
  have hr : (execOp σ o).run P w = .ok (.value (.slice (if cap = l then a else a.map (·.add (l * i.size))) (h - l) (cap - l))) w := by
    unfold execOp
    simp [ho, Instr.sliceAt, run_underlying ht, Instr.slice, e1, run_bounds2 b1 b2 b3 b4 h1 (by omega : h ≤ cap), run_sizeOf' hi']
  rw [hr]
  refine hk _ w E hh ?_ (Grow0.refl w E H)
  have hsz2 : (if cap = l then a else a.map (·.add (l * i.size))) = (if cap = l then a else a.map (·.add (l * sz))) := by
    rcases hsz with e | e
    · subst e
      have : l = 0 := by simp at h2; omega
      subst this
      simp
    · rw [e]
  rw [hsz2]
  refine e4 l h cap _ h1 h2 (Nat.le_refl _) (by omega) ?_
  by_cases hc : fo = 1 ∧ h = rows.length
  · rw [if_pos hc]; exact .inr ⟨rfl, by rw [e3 hc.1]; exact hc.2.symm⟩
  · rw [if_neg hc]; exact .inl rfl

/-- l[lo:hi:max], of a list by value, to no more than its length: full, if it has no more room. -/
theorem OpV0.slice3Lst (t : TypeId) (x : Operand) (lo : Option Operand) (hi mx : Operand) (ho : o.op = .slice t x lo (some hi) (some mx)) {e : TypeId} {i : TypeInfo} (ht : P.underlying t = some (.slice e)) (hi' : P.info? e = some i) {fo sz : Nat}
    {rows : List (List C)} (hx : ρ x = .lst fo sz rows) (hsz : rows = [] ∨ sz = i.size) {l h : Nat} (hl' : IsB ρ lo 0 l) (hh' : IsB ρ (some hi) 0 h) (hm' : IsB ρ (some mx) 0 h) (h1 : l ≤ h) (h2 : h ≤ rows.length) :
    OpV0 P o ρ H (.lst 1 sz ((rows.drop l).take (h - l))) H := fun w E σ hh hl K hk => by
  have h0 := hl x (by simp [ho, Op.operands])
  rw [hx] at h0
  obtain ⟨a, cap, e1, e2, e3, e4⟩ := lst_cut h0
  obtain ⟨b1, b2⟩ := hl'.val (E := E) (σ := σ) (fun y e => hl y (by subst e; simp [ho, Op.operands]))
  obtain ⟨b3, _⟩ := hh'.val (E := E) (σ := σ) (fun y e => hl y (by cases e; simp [ho, Op.operands]))
  obtain ⟨b4, _⟩ := hm'.val (E := E) (σ := σ) (fun y e => hl y (by cases e; simp [ho, Op.operands]))
  have hr : (execOp σ o).run P w = .ok (.value (.slice (if h = l then a else a.map (·.add (l * i.size))) (h - l) (h - l))) w := by
    unfold execOp
    simp [ho, Instr.sliceAt, run_underlying ht, Instr.slice, e1, run_bounds3 b1 b2 (b3 _ rfl) (b4 _ rfl) h1 (Nat.le_refl h) (by omega : h ≤ cap), run_sizeOf' hi']
  rw [hr]
  refine hk _ w E hh ?_ (Grow0.refl w E H)
  have hsz2 : (if h = l then a else a.map (·.add (l * i.size))) = (if h = l then a else a.map (·.add (l * sz))) := by
    rcases hsz with e | e
    · subst e
      have : l = 0 := by simp at h2; omega
      subst this
      simp
    · rw [e]
  rw [hsz2]
  exact e4 l h h 1 h1 h2 (by omega) (Nat.le_refl _) (.inr ⟨rfl, rfl⟩)

/-- l[lo:hi], of a slice of an array object: a part that isn't empty, or none of its beginning let go. -/
theorem OpV0.sliceSl (t : TypeId) (x : Operand) (lo hi : Option Operand) (ho : o.op = .slice t x lo hi none) {e : TypeId} {i : TypeInfo} (ht : P.underlying t = some (.slice e)) (hi' : P.info? e = some i) {id : Nat} {hops : List Hop} {sz lo0 len : Nat} {full : Bool}
    (hx : ρ x = .sl id hops sz lo0 len full) (hsz : sz = i.size) {l h : Nat} (hl' : IsB ρ lo 0 l) (hh' : IsB ρ hi len h) (h1 : l ≤ h) (h2 : h ≤ len) (hne : l = 0 ∨ l < h) (hfu : full = false ∨ h = len) :
    OpV0 P o ρ H (.sl id hops sz (lo0 + l) (h - l) full) H := fun w E σ hh hl K hk => by
  have h0 := hl x (by simp [ho, Op.operands])
  rw [hx] at h0
  obtain ⟨cap, hy, hn, hlen, hf, hf'⟩ : ∃ cap, σ x = .slice (some ⟨E.β id hops, lo0 * sz, none⟩) len cap ∧ id < E.n ∧ len ≤ cap ∧ (full = true → cap = len) ∧ (full = false → lo0 + cap = E.κ id hops) := by
    generalize σ x = u at *
    cases h0 with
    | sl id hops sz lo len full cap hn hlen hf hf' => exact ⟨cap, rfl, hn, hlen, hf, hf'⟩
  obtain ⟨b1, b2⟩ := hl'.val (E := E) (σ := σ) (fun y e => hl y (by subst e; simp [ho, Op.operands]))
  obtain ⟨b3, b4⟩ := hh'.val (E := E) (σ := σ) (fun y e => hl y (by subst e; simp [ho, Op.operands]))
  have hr : (execOp σ o).run P w = .ok (.value (.slice (some (if cap = l then ⟨E.β id hops, lo0 * sz, none⟩ else (Addr.mk (E.β id hops) (lo0 * sz) none).add (l * i.size))) (h - l) (cap - l))) w := by
    unfold execOp
    simp only [ho, Instr.sliceAt, Sem.run_bind, run_underlying ht, Result.andThen_ok, Instr.slice, hy, Option.map_none, run_bounds2 b1 b2 b3 b4 h1 (by omega : h ≤ cap), run_sizeOf' hi']
    by_cases hc : cap = l
    · simp [hc]
    · simp [hc]
  rw [hr]
  refine hk _ w E hh ?_ (Grow0.refl w E H)
  have hadd : (if cap = l then (⟨E.β id hops, lo0 * sz, none⟩ : Addr) else (Addr.mk (E.β id hops) (lo0 * sz) none).add (l * i.size)) = ⟨E.β id hops, (lo0 + l) * sz, none⟩ := by
    rw [addr_add, ← hsz, ← Nat.add_mul]
    by_cases hc : cap = l
    · rw [if_pos hc]
      have : l = 0 := by omega
      rw [this]; rfl
    · rw [if_neg hc]
  rw [hadd]
  refine .sl id hops sz (lo0 + l) (h - l) full (cap - l) hn (by omega) (fun e => ?_) (fun e => ?_)
  · have := hf e
    rcases hfu with e2 | e2
    · rw [e] at e2; cases e2
    · omega
  · have := hf' e
    omega

end
end Go.Ab
