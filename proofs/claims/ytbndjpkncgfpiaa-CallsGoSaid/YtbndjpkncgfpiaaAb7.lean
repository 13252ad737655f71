/- Stores, calls, and the plain operations on values, over an abstract state. -/
import Derived.Test.YtbndjpkncgfpiaaAb6
namespace Go.Ab
set_option linter.unusedVariables false

def writeRow (k : Nat) (cs : List C) (r : List C) : List C := r.take k ++ cs ++ r.drop (k + cs.length)
def writeAt (i k : Nat) (cs : List C) (rows : List (List C)) : List (List C) := rows.modify i (writeRow k cs)

theorem writeRow_length {k : Nat} {cs r : List C} (h : k + cs.length ≤ r.length) : (writeRow k cs r).length = r.length := by
  simp [writeRow]; omega

theorem writeRow_get {k : Nat} {cs r : List C} (h : k + cs.length ≤ r.length) (j : Nat) : (writeRow k cs r)[j]? = if k ≤ j ∧ j < k + cs.length then cs[j - k]? else r[j]? := by
  unfold writeRow
  rw [List.append_assoc]
  by_cases h1 : j < k
  · rw [List.getElem?_append_left (by simp; omega), List.getElem?_take, if_pos h1, if_neg (by omega)]
  · rw [List.getElem?_append_right (by simp; omega)]
    have hk : (r.take k).length = k := by simp; omega
    rw [hk]
    by_cases h2 : j < k + cs.length
    · rw [List.getElem?_append_left (by omega), if_pos ⟨by omega, h2⟩]
    · rw [List.getElem?_append_right (by omega), List.getElem?_drop, if_neg (by omega)]
      congr 1
      omega

theorem cellAt_writeAt {i k : Nat} {cs : List C} {rows : List (List C)} {r : List C} (hr : rows[i]? = some r) (h : k + cs.length ≤ r.length) (i' k' : Nat) :
    cellAt (writeAt i k cs rows) i' k' = if i = i' ∧ k ≤ k' ∧ k' < k + cs.length then cs[k' - k]? else cellAt rows i' k' := by
  unfold cellAt writeAt
  rw [List.getElem?_modify]
  by_cases hi : i = i'
  · subst hi
    rw [hr]
    simp only [if_true, Option.map_eq_map, Option.map_some, Option.bind_some, true_and]
    rw [writeRow_get h]
  · simp [hi]

/-- A store, as the heap becomes. -/
def storeH (P : Program) (H : Heap) (t : TypeId) (a x : C) : Option Heap :=
  match a, P.info? t with
  | .ref id hops sz i k, some inf =>
    match getB H id hops, H[id]? with
    | some (sz', rows), some ob =>
      match rows[i]? with
      | some r =>
        if (sz' == sz) && valC x && (x.cells.length == inf.size) && decide (k + x.cells.length ≤ r.length) && ((r.drop k).take x.cells.length).all noOwn && (ob.kind == 1 || x.cells.all shutC) && (!hops.isEmpty || decide (ob.fz ≤ i)) && (hops.isEmpty || ob.fz == 0)
        then some (setB H id hops (writeAt i k x.cells)) else none
      | none => none
    | _, _ => none
  | _, _ => none

section
variable {P : Program} {o : Oper} {ρ : Operand → C} {H : Heap}

theorem OpV0.store (t : TypeId) (x y : Operand) (ho : o.op = .store t x y) {H' : Heap} (hs : storeH P H t (ρ x) (ρ y) = some H') : OpV0 P o ρ H .un H' := fun w E σ hh hl K hk => by
  have hx := hl x (by simp [ho, Op.operands])
  have hy := hl y (by simp [ho, Op.operands])
  unfold storeH at hs
  split at hs
  rotate_left
  · cases hs
  rename_i id hops sz i k inf ha hinf
  split at hs
  rotate_left
  · cases hs
  rename_i sz' rows ob hb hob
  split at hs
  rotate_left
  · cases hs
  rename_i r hr
  split at hs
  rotate_left
  · cases hs
  rename_i hcond
  cases hs
  simp only [Bool.and_eq_true, beq_iff_eq, decide_eq_true_eq, Bool.or_eq_true, List.all_eq_true] at hcond
  obtain ⟨⟨⟨⟨⟨⟨⟨rfl, hval⟩, hlen⟩, hfit⟩, hold⟩, hkd⟩, hfz⟩, _⟩ := hcond
  obtain ⟨hll, hone, hno⟩ := valC_cells hy hval
  rw [ha] at hx
  have hB := hh.blk id ob hops sz' rows hob hb
  obtain ⟨cur, e, hg, hcs, hcell⟩ := hB.blk
  have hrl : r.length = sz' := hB.row r (List.mem_of_getElem? hr)
  have hil : i < rows.length := (List.getElem?_eq_some_iff.1 hr).1
  have hx' : σ x = .pointer (some ⟨E.β id hops, i * sz' + k, none⟩) := by generalize σ x = u at *; cases hx; rfl
  obtain ⟨vs, hvs⟩ : ∃ vs, vs = (σ y).cells.toList := ⟨_, rfl⟩
  rw [← hvs] at hll
  have hvl : vs.length = (ρ y).cells.length := hll.1.symm
  have hend : i * sz' + k + vs.length ≤ cur.size := by
    have h1 : (i + 1) * sz' ≤ E.κ id hops * sz' := Nat.mul_le_mul_right _ (Nat.le_trans hil hB.len)
    rw [Nat.add_mul] at h1
    omega
  have hrun := run_storeCells_at P (E.β id hops) (i * sz' + k) e vs 0 cur w hg (by simpa using hend) (fun v hv => hone v (by rw [hvs] at hv; simpa using hv))
  simp only [Nat.add_zero] at hrun
  obtain ⟨cur', hcur'⟩ : ∃ cur', cur' = (cur.toList.take (i * sz' + k) ++ vs ++ cur.toList.drop (i * sz' + k + vs.length)).toArray := ⟨_, rfl⟩
  rw [← hcur'] at hrun
  have hcget : ∀ j : Nat, cur'[j]? = if i * sz' + k ≤ j ∧ j < i * sz' + k + vs.length then vs[j - (i * sz' + k)]? else cur[j]? := by
    intro j
    rw [hcur']
    simp only [List.getElem?_toArray]
    rw [List.append_assoc]
    by_cases h1 : j < i * sz' + k
    · rw [List.getElem?_append_left (by simp; omega), List.getElem?_take, if_pos h1, if_neg (by omega), Array.getElem?_toList]
    · rw [List.getElem?_append_right (by simp; omega)]
      have hk' : (cur.toList.take (i * sz' + k)).length = i * sz' + k := by simp; omega
      rw [hk']
      by_cases h2 : j < i * sz' + k + vs.length
      · rw [List.getElem?_append_left (by omega), if_pos ⟨by omega, h2⟩]
      · rw [List.getElem?_append_right (by omega), List.getElem?_drop, if_neg (by omega), Array.getElem?_toList]
        congr 1
        omega
  have hr' : (execOp σ o).run P w = .ok .skip (w.setRow (E.β id hops) cur') := by
    unfold execOp
    have hsz2 : (σ y).cells.size = inf.size := by
      have : vs.length = (σ y).cells.size := by rw [hvs]; simp
      omega
    simp [ho, Instr.storeAt, Instr.sureAddr, hx', storeVar, run_sizeOf' hinf, hsz2, ← hvs, hrun]
  rw [hr']
  have hpos : ∀ i' k', i' < rows.length → k' < sz' → (i * sz' + k ≤ i' * sz' + k' ∧ i' * sz' + k' < i * sz' + k + vs.length ↔ i = i' ∧ k ≤ k' ∧ k' < k + vs.length) := by
    intro i' k' hi' hk'
    constructor
    · rintro ⟨h1, h2⟩
      have : i = i' := by
        rcases Nat.lt_trichotomy i i' with h | h | h
        · exfalso
          have : (i + 1) * sz' ≤ i' * sz' := Nat.mul_le_mul_right _ h
          rw [Nat.add_mul] at this
          omega
        · exact h
        · exfalso
          have : (i' + 1) * sz' ≤ i * sz' := Nat.mul_le_mul_right _ h
          rw [Nat.add_mul] at this
          omega
      subst this
      omega
    · rintro ⟨rfl, h1, h2⟩
      omega
  have htame : Tame rows (writeAt i k (ρ y).cells rows) := by
    refine ⟨by simp [writeAt], ?_⟩
    intro i' k' s r0
    rw [cellAt_writeAt hr hfit]
    split
    · rename_i hin
      obtain ⟨rfl, h1, h2⟩ := hin
      constructor
      · intro h
        have := List.all_eq_true.1 hno _ (List.mem_of_getElem? h)
        simp [noOwn] at this
      · intro h
        simp only [cellAt, hr, Option.bind_some] at h
        have hm : C.lst 2 s r0 ∈ (r.drop k).take (ρ y).cells.length := by
          apply List.mem_iff_getElem?.2
          refine ⟨k' - k, ?_⟩
          rw [List.getElem?_take, if_pos (by omega), List.getElem?_drop, show k + (k' - k) = k' from by omega]
          exact h
        have := hold _ hm
        simp [noOwn] at this
    · rfl
  have hW := hh.write hob hb htame (cur := cur) (cur' := cur') (e := e) ?_ hg ?_ ?_ ?_
  · exact hk _ _ E hW.1 .un hW.2
  · intro r0 hr0
    obtain ⟨j, hj⟩ := List.mem_iff_getElem?.1 hr0
    unfold writeAt at hj
    rw [List.getElem?_modify] at hj
    cases hx0 : rows[j]? with
    | none => rw [hx0] at hj; cases hj
    | some r1 =>
      rw [hx0] at hj
      simp only [Option.map_eq_map, Option.map_some, Option.some.injEq] at hj
      subst hj
      by_cases hij : i = j
      · subst hij
        rw [hr] at hx0
        cases hx0
        rw [if_pos rfl, writeRow_length hfit]
        exact hrl
      · rw [if_neg hij]
        exact hB.row r1 (List.mem_of_getElem? hx0)
  · rw [hcur']; simp; omega
  · intro off u hu
    obtain ⟨e1, ob', e2, e3⟩ := hh.sep id hops _ off u hb hu
    rw [hob] at e2
    cases e2
    subst e1
    simp at hfz
    have hsz0 : ob.sz = sz' := by
      obtain ⟨ob2, h1, _, h2⟩ := getB_ob hb
      rw [hob] at h1
      cases h1
      rw [getT_nil] at h2
      cases h2
      rfl
    have hlt : off < i * sz' := by
      rw [hsz0] at e3
      exact Nat.lt_of_lt_of_le e3 (Nat.mul_le_mul_right _ hfz)
    rw [hcget, if_neg (by omega)]
    have := (hh.stable _ _ _ hu).1
    unfold World.cell? at this
    rw [hg] at this
    simpa using this
  · intro i' k' c hcc
    rw [cellAt_writeAt hr hfit] at hcc
    split at hcc
    · rename_i hin
      obtain ⟨rfl, h1, h2⟩ := hin
      obtain ⟨u, hu, hlu⟩ := hll.get hcc
      have hnoc := List.all_eq_true.1 hno _ (List.mem_of_getElem? hcc)
      refine ⟨u, ?_, (CellOK.loose hnoc).2 ⟨?_, hone u ?_⟩⟩
      · rw [hcget, if_pos (by omega), show i * sz' + k' - (i * sz' + k) = k' - k from by omega]
        exact hu
      · rcases hkd with hkd | hkd
        · simpa [Env.at, hkd] using hlu
        · unfold Env.at
          split
          · exact hlu.toShut (hkd _ (List.mem_of_getElem? hcc))
          · exact hlu
      · have := List.mem_of_getElem? hu
        rw [hvs] at this
        simpa using this
    · rename_i hnot
      obtain ⟨u, hu, hou⟩ := hcell i' k' c hcc
      refine ⟨u, ?_, hou⟩
      have hi'k' : i' < rows.length ∧ k' < sz' := by
        unfold cellAt at hcc
        cases hx0 : rows[i']? with
        | none => rw [hx0] at hcc; cases hcc
        | some r1 =>
          rw [hx0] at hcc
          refine ⟨(List.getElem?_eq_some_iff.1 hx0).1, ?_⟩
          have := hB.row r1 (List.mem_of_getElem? hx0)
          rw [← this]
          exact (List.getElem?_eq_some_iff.1 hcc).1
      rw [hcget, if_neg]
      · exact hu
      · rw [hpos i' k' hi'k'.1 hi'k'.2, hvl]
        exact hnot

/-! ### Calls -/

/-- **A function, called so over such a heap, hands back this, and leaves that heap.** -/
def SoundAt (P : Program) (f : FuncId) (H : Heap) (args : List C) (r : C) (H' : Heap) : Prop :=
  ∀ (w : World) (E : Env) (vs : Array Value), HRel w E H → LL E args vs.toList →
    Calls P f vs w fun e w' => ∃ v E', e = .returned v ∧ HRel w' E' H' ∧ L E' r v ∧ Grow w E H w' E' H'

def callable (P : Program) (f : FuncId) : Bool :=
  match P.funcs[f]? with
  | some fn => !(fn.name == "runtime.NumGoroutine") && fn.body.isSome
  | none => false

theorem OpV.call (cl : Call) (ho : o.op = .call cl) (x : Operand) (hcl : cl.callee = .value x) {f : FuncId} {first caps : List C} (hf : ρ x = .fn f first caps) (hcb : callable P f = true) {r : C} {H' : Heap}
    (hs : SoundAt P f H (first ++ (cl.args.toList.map ρ) ++ caps) r H') : OpV P o ρ H r H' := fun w E σ hh hl K hk => by
  have h0 := hl x (by simp [ho, Op.operands, Call.operands, hcl])
  rw [hf] at h0
  obtain ⟨ys, zs, hv, h1, h2, h3, h4⟩ : ∃ ys zs, σ x = .func (.func f) ys zs ∧ first.length = ys.size ∧ caps.length = zs.size ∧ (∀ (i : Nat) c y, first[i]? = some c → ys[i]? = some y → L E c y) ∧ (∀ (i : Nat) c y, caps[i]? = some c → zs[i]? = some y → L E c y) := by
    generalize σ x = u at *
    cases h0 with
    | fn f first caps ys zs h1 h2 h3 h4 => exact ⟨ys, zs, rfl, h1, h2, h3, h4⟩
  unfold callable at hcb
  split at hcb
  rotate_left
  · cases hcb
  rename_i fn hfn
  simp only [Bool.and_eq_true, Bool.not_eq_true'] at hcb
  have hname : fn.name ≠ "runtime.NumGoroutine" := by simpa using hcb.1
  have hbody : fn.body ≠ none := by intro hb; simp [hb] at hcb
  have hr : (execOp σ o).run P w = .ok (.enter f (ys ++ cl.args.map σ ++ zs)) w := by
    unfold execOp
    simp [ho, resolve, hcl, hv, Deferred.ofValue, invoke, callFunc, hfn, hname, hbody]
  rw [hr]
  refine (hs w E (ys ++ cl.args.map σ ++ zs) hh ?_).mono ?_
  · have e1 : LL E first ys.toList := ⟨by simpa using h1, fun i c y e1 e2 => h3 i c y e1 (by simpa using e2)⟩
    have e2 : LL E caps zs.toList := ⟨by simpa using h2, fun i c y e1 e2 => h4 i c y e1 (by simpa using e2)⟩
    have e3 : LL E (cl.args.toList.map ρ) (cl.args.map σ).toList := by
      refine ⟨by simp, ?_⟩
      intro i c y hc hy
      rw [List.getElem?_map] at hc
      rw [Array.toList_map, List.getElem?_map] at hy
      cases ha : cl.args.toList[i]? with
      | none => rw [ha] at hc; cases hc
      | some a =>
        rw [ha] at hc hy
        cases hc
        cases hy
        exact hl a (by simp [ho, Op.operands, Call.operands]; right; have := List.mem_of_getElem? ha; simpa using this)
    have := (e1.append e3).append e2
    simpa using this
  · rintro e w' ⟨v, E', rfl, h5, h6, h7⟩
    exact ⟨v, rfl, hk v w' E' h5 h6 h7⟩

end
end Go.Ab
