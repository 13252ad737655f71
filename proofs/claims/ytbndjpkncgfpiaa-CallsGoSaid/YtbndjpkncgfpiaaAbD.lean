/- Saying less of a state; a function's body and what a call of it says; the same call over more objects. -/
import Derived.Test.YtbndjpkncgfpiaaAbC
namespace Go.Ab
set_option linter.unusedVariables false

section
variable {P : Program} {B : Nat} {s s' : S}

/-! ### Cells that say less -/

def WC (c c' : C) : Prop := ∀ (E : Env) (y : Value), L E c y → L E c' y

theorem WC.refl (c : C) : WC c c := fun _ _ h => h
theorem WC.junk (c : C) : WC c .junk := fun _ y _ => .junk y
theorem WC.share (o sz : Nat) (rows : List (List C)) : WC (.lst o sz rows) (.lst 0 sz rows) := fun E y h => by
  cases h with
  | lst o sz rows b off cap us ho hc hsz hst hL => exact .lst 0 sz rows b off cap us (.inl rfl) hc hsz hst hL
  | lnil o sz ho a => exact .lnil 0 sz (.inl rfl) a
theorem WC.none (o sz sz' : Nat) : WC (.lst o sz []) (.lst o sz' []) := fun E y h => by
  cases h with
  | lst o sz rows b off cap us ho hc hsz hst hL => exact .lst o sz' [] b off cap us ho hc (by simp) (by simp) (by simp)
  | lnil o sz ho a => exact .lnil o sz' ho a

/-- Cell by cell. -/
inductive WCs : List C → List C → Prop
  | nil : WCs [] []
  | cons {c c' : C} {cs cs' : List C} (h : WC c c') (t : WCs cs cs') : WCs (c :: cs) (c' :: cs')

theorem WCs.refl : ∀ cs : List C, WCs cs cs
  | [] => .nil
  | c :: cs => .cons (.refl c) (WCs.refl cs)

theorem WCs.LL {E : Env} : ∀ {cs cs' : List C} {ys : List Value}, WCs cs cs' → LL E cs ys → LL E cs' ys
  | [], _, ys, .nil, h => h
  | c :: cs, _, ys, .cons h t, hl => by
    match ys, hl with
    | [], hl => have := hl.1; simp at this
    | y :: ys, hl =>
      obtain ⟨h1, h2⟩ := hl.cons_inv
      exact LL.cons (h E y h1) (t.LL h2)

theorem Weak.tmps {t t' : List C} {H : Heap} (h : WCs t t') : Weak B ⟨t, H⟩ ⟨t', H⟩ := fun m w E a hs =>
  ⟨E, ⟨hs.heap, h.LL hs.tmps, hs.defers, hs.base⟩, GrowB.refl B w E H⟩

/-- What is not kept is forgotten. -/
def maskL (keep : List Nat) : Nat → List C → List C
  | _, [] => []
  | i, c :: cs => (if keep.contains i then c else .junk) :: maskL keep (i + 1) cs

theorem maskL_WCs (keep : List Nat) : ∀ (cs : List C) (i : Nat), WCs cs (maskL keep i cs)
  | [], _ => .nil
  | c :: cs, i => .cons (by split; exact .refl c; exact .junk c) (maskL_WCs keep cs (i + 1))

theorem Weak.mask (keep : List Nat) (t : List C) (H : Heap) : Weak B ⟨t, H⟩ ⟨maskL keep 0 t, H⟩ := Weak.tmps (maskL_WCs keep t 0)

/-! ### Objects that are let go -/

/-- A cell that speaks of no object from here on. -/
def lowC (n : Nat) : Nat → C → Bool
  | 0, _ => false
  | k + 1, c => match c with
    | .v _ | .sref _ | .un | .junk => true
    | .lst o _ rows => o != 2 || rows.all fun r => r.all (lowC n k)
    | .ref id .. | .sl id .. | .mp id | .gl id .. => decide (id < n)
    | .ifc _ c => lowC n k c
    | .rc _ => true
    | .agg cs | .tup cs => cs.all (lowC n k)
    | .fn _ first caps => first.all (lowC n k) && caps.all (lowC n k)

def Env.cut (E : Env) (n : Nat) : Env := { E with n := n }

theorem L.cut {E : Env} (n : Nat) : ∀ (k : Nat) {c : C} {y : Value}, lowC n k c = true → L E c y → L (E.cut n) c y := by
  intro k
  induction k with
  | zero => intro c y h; simp [lowC] at h
  | succ k ih =>
    intro c y h hl
    cases hl with
    | v x hx => exact .v _ hx
    | lst o sz rows b off cap us ho hc hsz hst hL => exact .lst o sz rows b off cap us ho hc hsz hst hL
    | lnil o sz ho a => exact .lnil o sz ho a
    | sref cells b off us hst hL => exact .sref cells b off us hst hL
    | ref id hops sz i k hn => simp only [lowC, decide_eq_true_eq] at h; exact .ref (E := E.cut n) id hops sz i k h
    | sl id hops sz lo len full cap hn hlen hf hf' => simp only [lowC, decide_eq_true_eq] at h; exact .sl (E := E.cut n) id hops sz lo len full cap h hlen hf hf'
    | mp id hn => simp only [lowC, decide_eq_true_eq] at h; exact .mp (E := E.cut n) id h
    | agg cs ys h1 h2 h3 =>
      simp only [lowC, List.all_eq_true] at h
      exact .agg cs ys h1 (fun i c y e1 e2 => ih (h c (List.mem_of_getElem? e1)) (h2 i c y e1 e2)) h3
    | tup cs ys h1 h2 =>
      simp only [lowC, List.all_eq_true] at h
      exact .tup cs ys h1 (fun i c y e1 e2 => ih (h c (List.mem_of_getElem? e1)) (h2 i c y e1 e2))
    | fn f first caps ys zs h1 h2 h3 h4 =>
      simp only [lowC, Bool.and_eq_true, List.all_eq_true] at h
      exact .fn f first caps ys zs h1 h2 (fun i c y e1 e2 => ih (h.1 c (List.mem_of_getElem? e1)) (h3 i c y e1 e2)) (fun i c y e1 e2 => ih (h.2 c (List.mem_of_getElem? e1)) (h4 i c y e1 e2))
    | un => exact .un
    | junk y => exact .junk y
    | gl id sz rows y hn hg hl => simp only [lowC, decide_eq_true_eq] at h; exact .gl (E := E.cut n) id sz rows y h hg hl
    | ifc t c y hl => simp only [lowC] at h; exact .ifc t c y (ih h hl)

/-- What an object's cells speak of. -/
def rowsLow (n : Nat) (H : Heap) : Bool := H.all fun ob => ob.kind == 2 || (ob.kind == 4 && ob.fz == 0) || ob.rows.all fun r => r.all (lowC n 9)

theorem getT_low {n : Nat} : ∀ (hops : List Hop) (sz : Nat) (rows : List (List C)) (sz' : Nat) (rows' : List (List C)), (∀ i k c, cellAt rows i k = some c → ∃ f, lowC n f c = true) → getT sz rows hops = some (sz', rows') →
    ∀ i k c, cellAt rows' i k = some c → ∃ f, lowC n f c = true
  | [], sz, rows, sz', rows', h, hg => by rw [getT_nil] at hg; cases hg; exact h
  | (i, k) :: hs, sz, rows, sz', rows', h, hg => by
    rw [getT_cons] at hg
    split at hg
    · rename_i sz2 rows2 hc
      refine getT_low hs sz2 rows2 sz' rows' ?_ hg
      obtain ⟨f, hf⟩ := h i k _ hc
      cases f with
      | zero => simp [lowC] at hf
      | succ f =>
        intro i' k' c' hc'
        simp only [lowC, bne_self_eq_false, Bool.false_or, List.all_eq_true] at hf
        unfold cellAt at hc'
        cases hx : rows2[i']? with
        | none => rw [hx] at hc'; cases hc'
        | some r => rw [hx] at hc'; exact ⟨f, hf r (List.mem_of_getElem? hx) c' (List.mem_of_getElem? hc')⟩
    · cases hg

theorem getB_take {H : Heap} {n id : Nat} {hops : List Hop} {x : Nat × List (List C)} (h : getB (H.take n) id hops = some x) : getB H id hops = some x ∧ id < n := by
  obtain ⟨ob, ho, hk, hg⟩ := getB_ob h
  rw [List.getElem?_take] at ho
  split at ho
  · rename_i hlt
    refine ⟨?_, hlt⟩
    unfold getB
    rw [ho]
    simp only [hk, if_true]
    exact hg
  · cases ho

/-- A dead object more. -/
theorem Weak.dead (ty sz : Nat) : Weak B s ⟨s.tmps, s.H ++ [⟨0, ty, sz, [], 0⟩]⟩ := fun m w E a hs => by
  have hh := hs.heap.base
  have hle := E.push_le 0 0
  have get : ∀ id hops x, getB (s.H ++ [⟨0, ty, sz, [], 0⟩]) id hops = some x → id < s.H.length ∧ getB s.H id hops = some x := by
    intro id hops x hx
    by_cases hlt : id < s.H.length
    · exact ⟨hlt, by rw [getB_append hlt] at hx; exact hx⟩
    · obtain ⟨ob, ho, hk, hg⟩ := getB_ob hx
      rw [List.getElem?_append_right (by omega)] at ho
      have : id - s.H.length = 0 := by
        have := (List.getElem?_eq_some_iff.1 ho).1
        simp at this
        omega
      rw [this] at ho
      cases ho
      simp at hk
  have hold : ∀ id hops, id < s.H.length → (E.push 0 0).β id hops = E.β id hops := fun id hops hlt => hle.β id hops (by rw [hh.n]; exact hlt)
  have hk4 : Keep4 s.H (s.H ++ [⟨0, ty, sz, [], 0⟩]) := Keep4.push _ _ (fun h => by cases h)
  suffices h : HRel0 w (E.push 0 0) (s.H ++ [⟨0, ty, sz, [], 0⟩]) ∧ Grow0 w E s.H w (E.push 0 0) (s.H ++ [⟨0, ty, sz, [], 0⟩]) from
    ⟨E.push 0 0, ⟨⟨h.1, Gro.step hs.heap h.2 hk4⟩, hs.tmps.mono hle, hs.defers, by have := hs.base; simp; omega⟩, (h.2.up hs.heap hk4).toB (by rw [hh.n]; exact hs.base)⟩
  refine ⟨⟨by simp [Env.push, hh.n], ?_, ?_, hh.stable, ?_, ?_, ?_⟩, ⟨hle, fun _ _ _ => rfl, rfl, rfl, rfl, Nat.le_refl _, fun _ _ _ => rfl, fun b o u hu => .inl hu, ?_⟩⟩
  · intro id ob hops sz' rows' hob hx
    obtain ⟨hlt, hx'⟩ := get id hops _ hx
    rw [List.getElem?_append_left hlt] at hob
    exact (hh.blk id ob hops sz' rows' hob hx').step hle (by rw [hh.n]; exact hlt) rfl
  · intro id hops id' hops' x y hx hy he
    obtain ⟨h1, hx'⟩ := get id hops _ hx
    obtain ⟨h2, hy'⟩ := get id' hops' _ hy
    rw [hold id hops h1, hold id' hops' h2] at he
    exact hh.inj id hops id' hops' x y hx' hy' he
  · intro id hops x o u hx hu
    obtain ⟨h1, hx'⟩ := get id hops _ hx
    rw [hold id hops h1] at hu
    obtain ⟨e1, ob, e2, e3⟩ := hh.sep id hops x o u hx' hu
    exact ⟨e1, ob, by rw [List.getElem?_append_left h1]; exact e2, e3⟩
  · intro id ob hob hk
    by_cases hlt : id < s.H.length
    · rw [List.getElem?_append_left hlt] at hob
      rw [hold id [] hlt]
      exact hh.ty id ob hob hk
    · rw [List.getElem?_append_right (by omega)] at hob
      have : id - s.H.length = 0 := by
        have := (List.getElem?_eq_some_iff.1 hob).1
        simp at this
        omega
      rw [this] at hob
      cases hob
      cases hk
  · intro id ob hob
    by_cases hlt : id < s.H.length
    · rw [List.getElem?_append_left hlt] at hob
      exact hh.fz id ob hob
    · rw [List.getElem?_append_right (by omega)] at hob
      have : id - s.H.length = 0 := by
        have := (List.getElem?_eq_some_iff.1 hob).1
        simp at this
        omega
      rw [this] at hob
      cases hob
      exact Nat.zero_le _
  · rintro b ⟨id, hops, x, hx, rfl⟩
    obtain ⟨h1, hx'⟩ := get id hops _ hx
    exact .inr ⟨id, hops, x, hx', by rw [hold id hops h1]⟩

/-- The objects from here on are let go. -/
theorem HRel0.drop {w : World} {E : Env} {H : Heap} (hh : HRel0 w E H) (n : Nat) (hn : n ≤ H.length) (hr : rowsLow n (H.take n) = true) : HRel0 w (E.cut n) (H.take n) where
  n := by simp [Env.cut, hn]
  blk id ob hops sz rows hob hx := by
    obtain ⟨hx', hlt⟩ := getB_take hx
    rw [List.getElem?_take, if_pos hlt] at hob
    have hb := hh.blk id ob hops sz rows hob hx'
    obtain ⟨cur, e, hg, hcs, hcell⟩ := hb.blk
    refine ⟨hb.len, hb.row, cur, e, hg, hcs, ?_⟩
    intro i k c hc
    obtain ⟨u, hu, ho⟩ := hcell i k c hc
    refine ⟨u, hu, ?_⟩
    by_cases hno : noOwn c = true
    · rw [CellOK.loose hno] at ho ⊢
      refine ⟨?_, ho.2⟩
      by_cases hk : ob.kind = 2
      · have h1 := ho.1
        simp only [Env.at, hk, if_true] at h1 ⊢
        exact h1
      · have h1 := ho.1
        simp only [Env.at, if_neg hk] at h1 ⊢
        have h2 := List.all_eq_true.1 hr ob (List.mem_of_getElem? (by rw [List.getElem?_take, if_pos hlt]; exact hob))
        have hk' : (ob.kind == 2) = false := by simpa using hk
        obtain ⟨ob2, ho2, hk12, hg2⟩ := getB_ob hx'
        rw [hob] at ho2
        cases ho2
        have hk4 : (ob.kind == 4) = false := by rcases hk12 with e | e <;> rw [e] <;> rfl
        rw [hk', hk4, Bool.false_and, Bool.false_or, Bool.false_or] at h2
        obtain ⟨f, hf⟩ := getT_low hops _ _ _ _ (fun i k c hc => by
          unfold cellAt at hc
          cases hx : ob.rows[i]? with
          | none => rw [hx] at hc; cases hc
          | some r =>
            rw [hx] at hc
            exact ⟨9, List.all_eq_true.1 (List.all_eq_true.1 h2 r (List.mem_of_getElem? hx)) c (List.mem_of_getElem? hc)⟩) hg2 i k c hc
        exact h1.cut n f hf
    · unfold CellOK at ho ⊢
      split at ho
      · exact ho
      · rename_i h2
        exfalso
        apply hno
        unfold noOwn
        split
        · exact absurd rfl (h2 _ _)
        · rfl
  inj id hops id' hops' x y hx hy he := hh.inj id hops id' hops' x y (getB_take hx).1 (getB_take hy).1 he
  stable := hh.stable
  sep id hops x o u hx hu := by
    obtain ⟨hx', hlt⟩ := getB_take hx
    obtain ⟨e1, ob, e2, e3⟩ := hh.sep id hops x o u hx' hu
    exact ⟨e1, ob, by rw [List.getElem?_take, if_pos hlt]; exact e2, e3⟩
  ty id ob hob hk := by
    rw [List.getElem?_take] at hob
    split at hob
    · exact hh.ty id ob hob hk
    · cases hob
  fz id ob hob := by
    rw [List.getElem?_take] at hob
    split at hob
    · exact hh.fz id ob hob
    · cases hob

theorem take_some {H : Heap} {n id : Nat} {ob : Ob} (h : (H.take n)[id]? = some ob) : H[id]? = some ob := by
  rw [List.getElem?_take] at h
  split at h
  · exact h
  · cases h

theorem GroOwn.take {E : Env} {H : Heap} {n id b : Nat} (h : GroOwn (E.cut n) (H.take n) id b) : GroOwn E H id b :=
  let ⟨ob, cap, h1, h2, h3, h4⟩ := h; ⟨ob, cap, take_some h1, h2, h3, h4⟩

theorem RecOwn.take {H : Heap} {n id b : Nat} (h : RecOwn (H.take n) id b) : RecOwn H id b :=
  let ⟨ob, r, t, h1, h2⟩ := h; ⟨ob, r, t, take_some h1, h2⟩

theorem Owned0.take {E : Env} {H : Heap} {n b : Nat} (h : Owned0 (E.cut n) (H.take n) b) : Owned0 E H b :=
  let ⟨id, hops, x, hx, e⟩ := h; ⟨id, hops, x, (getB_take hx).1, e⟩
theorem Owned.take {E : Env} {H : Heap} {n b : Nat} (h : Owned (E.cut n) (H.take n) b) : Owned E H b :=
  h.imp Owned0.take fun ⟨id, h⟩ => ⟨id, h.imp GroOwn.take RecOwn.take⟩

theorem HRel.drop {w : World} {E : Env} {H : Heap} (hh : HRel w E H) (n : Nat) (hn : n ≤ H.length) (hr : rowsLow n (H.take n) = true) : HRel w (E.cut n) (H.take n) where
  base := hh.base.drop n hn hr
  gro := {
    val := fun id ob h1 h2 => hh.gro.val id ob (take_some h1) h2
    blk := fun id b ob h1 h2 => hh.gro.blk id b ob h1.take (take_some h2)
    sep := fun id b h1 h2 => hh.gro.sep id b h1.take h2.take
    inj := fun id id' b h1 h2 => hh.gro.inj id id' b h1.take h2.take
    st := fun id b ob o u h1 h2 h3 => hh.gro.st id b ob o u h1.take (take_some h2) h3
    top := fun id ob k u h1 h2 h3 => hh.gro.top id ob k u (take_some h1) h2 h3
    lop := fun id ob r t h1 h2 h3 => by
      obtain ⟨p1, p2⟩ := hh.gro.lop id ob r t (take_some h1) h2 h3
      refine ⟨p1, p2.1, fun i c y e1 e2 => (p2.2 i c y e1 e2).cut n 9 ?_⟩
      have := List.all_eq_true.1 hr ob (List.mem_of_getElem? h1)
      rw [h2, h3.1, h3.2] at this
      simp at this
      exact this.2 c (List.mem_of_getElem? e1)
    rinj := fun id id' b h1 h2 => hh.gro.rinj id id' b h1.take h2.take }

theorem Weak.drop (n : Nat) (hB : Nat.ble B n = true) (hn : Nat.ble n s.H.length = true) (ht : s.tmps.all (lowC n 9) = true) (hr : rowsLow n (s.H.take n) = true) : Weak B s ⟨s.tmps, s.H.take n⟩ := fun m w E a hs =>
  ⟨E.cut n, ⟨hs.heap.drop n (Nat.le_of_ble_eq_true hn) hr, ⟨hs.tmps.1, fun i c y e1 e2 => (hs.tmps.2 i c y e1 e2).cut n 9 (List.all_eq_true.1 ht c (List.mem_of_getElem? e1))⟩, hs.defers, by have h1 := Nat.le_of_ble_eq_true hB; have h2 := Nat.le_of_ble_eq_true hn; simp; omega⟩,
    ⟨⟨fun _ _ _ => rfl, fun _ _ _ => rfl, fun _ _ _ h => h, fun _ _ _ _ h => h⟩, rfl, rfl, rfl, Nat.le_refl _, fun _ _ _ => rfl, fun b o u hu => .inl hu, fun b h => .inr h.take⟩⟩

/-- Some temporaries are kept, and so many objects. -/
theorem Weak.keep (m : List Nat) (n : Nat) (t : List C) (H : Heap) (hB : Nat.ble B n = true) (hn : Nat.ble n H.length = true) (ht : (maskL m 0 t).all (lowC n 9) = true) (hr : rowsLow n (H.take n) = true) : Weak B ⟨t, H⟩ ⟨maskL m 0 t, H.take n⟩ :=
  (Weak.mask m t H).trans (Weak.drop (s := ⟨maskL m 0 t, H⟩) n hB hn ht hr)

/-! ### Functions -/

def entry (fn : Func) (args : List C) : List C := args ++ List.replicate (fn.ntmps - args.length) .un

def oneC (P : Program) (s : S) : ResultVar → Option C
  | .tmp t => some ((s.tmps[t]?).getD .junk)
  | .cell a t => loadC P s.H t ((s.tmps[a]?).getD .junk)

def resC (P : Program) (fn : Func) (s : S) : Option C :=
  match fn.results.toList.mapM (oneC P s) with
  | some [c] => some c
  | some cs => some (.tup cs)
  | none => none

def oneV (tmps : Array Value) : ResultVar → Sem Value
  | .tmp t => pure (tmps.getD t undef)
  | .cell a t => do loadVar t (← asAddr (tmps.getD a undef))

theorem results_eq (fn : Func) (tmps : Array Value) : results fn tmps = (do let vs ← fn.results.mapM (oneV tmps); pure (if h : vs.size = 1 then vs[0] else .tuple vs)) := rfl

theorem tmps_get {E : Env} {tmps : List C} {a : Array Value} (h : LL E tmps a.toList) (t : Tmp) : L E ((tmps[t]?).getD .junk) (a.getD t undef) := by
  have := ev_L (a := ⟨a, []⟩) h (.tmp t)
  exact this

theorem run_loadC {w : World} {E : Env} {H : Heap} (hh : HRel0 w E H) {t : TypeId} {c0 c : C} {y : Value} (hl : L E c0 y) (hc : loadC P H t c0 = some c) : ∃ a u, y = .pointer (some a) ∧ (loadVar t a).run P w = .ok u w ∧ L E c u := by
  unfold loadC at hc
  split at hc
  · rename_i d i hd hi
    by_cases hag : descAgg d = true
    · rw [if_pos hag] at hc
      cases hr : readC H c0 i.size with
      | none => rw [hr] at hc; cases hc
      | some cs =>
        rw [hr] at hc
        cases hc
        obtain ⟨a, us, ha, hcell, hll, hlen, hone⟩ := readC_L hh hl hr
        have h3 := run_loadCells_list (P := P) (w := w) a us (fun j v hj => hcell j v hj)
        rw [hlen] at h3
        exact ⟨a, .agg us.toArray, ha, by simp [loadVar, run_isAgg hd, hag, run_sizeOf' hi, h3],
          .agg cs us.toArray (by simpa using hll.1) (fun i c y e1 e2 => hll.2 i c y e1 (by simpa using e2)) (fun u hu => hone u (by simpa using hu))⟩
    · rw [if_neg hag] at hc
      split at hc
      · rename_i x0 hr
        cases hc
        obtain ⟨a, us, ha, hcell, hll, hlen, hone⟩ := readC_L hh hl hr
        obtain ⟨u, rfl⟩ : ∃ u, us = [u] := by
          match us, hlen with
          | [u], _ => exact ⟨u, rfl⟩
        have hu := hcell 0 u rfl
        have ha0 : a.add 0 = a := by simp [Addr.add]
        rw [ha0] at hu
        exact ⟨a, u, ha, by simp [loadVar, run_isAgg hd, hag, hu], hll.cons_inv.1⟩
      · cases hc
  · cases hc

theorem run_resC {m : Nat} {w : World} {E : Env} {s : S} {a : Act} (hs : SRel B m w E s a) {fn : Func} {r : C} (hr : resC P fn s = some r) : ∃ v, (results fn a.tmps).run P w = .ok v w ∧ L E r v := by
  have one : ∀ (x : ResultVar) c, oneC P s x = some c → ∃ v, (oneV a.tmps x).run P w = .ok v w ∧ L E c v := by
    intro x c h
    cases x with
    | tmp t => cases h; exact ⟨_, rfl, tmps_get hs.tmps t⟩
    | cell b t =>
      obtain ⟨ad, u, e1, e2, e3⟩ := run_loadC hs.heap.base (tmps_get hs.tmps b) h
      refine ⟨u, ?_, e3⟩
      unfold oneV
      dsimp only
      rw [e1]
      exact e2
  have key : ∀ (l : List ResultVar) (cs : List C), l.mapM (oneC P s) = some cs → ∃ vs : List Value, (l.mapM (oneV a.tmps)).run P w = .ok vs w ∧ LL E cs vs := by
    intro l
    induction l with
    | nil => intro cs h; simp at h; subst h; exact ⟨[], by simp, LL.nil⟩
    | cons x l ih =>
      intro cs h
      rw [List.mapM_cons] at h
      cases hx : oneC P s x with
      | none => rw [hx] at h; cases h
      | some c =>
        rw [hx] at h
        cases hm : l.mapM (oneC P s) with
        | none => rw [hm] at h; cases h
        | some cs' =>
          rw [hm] at h
          cases h
          obtain ⟨vs, h1, h2⟩ := ih cs' hm
          obtain ⟨v, e1, e2⟩ := one x c hx
          exact ⟨v :: vs, by rw [List.mapM_cons]; simp [h1, e1], LL.cons e2 h2⟩
  unfold resC at hr
  cases hm : fn.results.toList.mapM (oneC P s) with
  | none => rw [hm] at hr; cases hr
  | some cs =>
    obtain ⟨vs, h1, h2⟩ := key _ cs hm
    have h3 : (results fn a.tmps).run P w = .ok (if h : vs.toArray.size = 1 then vs.toArray[0] else .tuple vs.toArray) w := by
      rw [results_eq, Array.mapM_eq_mapM_toList]
      simp [h1]
    refine ⟨_, h3, ?_⟩
    rw [hm] at hr
    split at hr
    · rename_i c e
      cases e
      cases hr
      match vs, h2 with
      | [], h2 => have := h2.1; simp at this
      | [v], h2 => simpa using h2.cons_inv.1
      | _ :: _ :: _, h2 => have := h2.1; simp at this
    · rename_i cs0 hne e
      cases e
      cases hr
      have hl := h2.1
      have hne1 : vs.length ≠ 1 := by
        intro h
        rw [h] at hl
        match cs, hl with
        | [c], _ => exact hne c rfl
      rw [dif_neg (by simpa using hne1)]
      exact .tup cs vs.toArray (by simpa using hl) (fun i c y e1 e2 => h2.2 i c y e1 (by simpa using e2))
    · rename_i e; cases e

theorem entry_LL {E : Env} {fn : Func} {args : List C} {vs : Array Value} (h : LL E args vs.toList) : LL E (entry fn args) (vs ++ Array.replicate (fn.ntmps - vs.size) undef).toList := by
  rw [Array.toList_append, Array.toList_replicate]
  have hl := h.1
  simp at hl
  refine h.append ⟨by simp [hl], ?_⟩
  intro i c y e1 e2
  obtain ⟨rfl, _⟩ := List.mem_replicate.1 (List.mem_of_getElem? e1) |>.symm
  obtain ⟨rfl, _⟩ := List.mem_replicate.1 (List.mem_of_getElem? e2) |>.symm
  exact .un

/-- On the way out the marks' blocks are shut. -/
theorem leaves {fn : Func} {tmps : Array Value} {R : Ending → World → Prop} {m : Nat} : ∀ {ds : List Deferred} {w : World}, Marks m w ds →
    (∀ w' : World, w'.os = w.os → w'.tape = w.tape → w'.output = w.output → w'.heap.size = w.heap.size → (∀ k : Nat, k < m → w'.heap[k]? = w.heap[k]?) → (∀ (k : Nat) (o : Obj), w.heap[k]? = some o → (∀ ds, o ≠ .deferred ds) → w'.heap[k]? = w.heap[k]?) →
      ∃ v, (results fn tmps).run P w' = .ok v w' ∧ R (.returned v) w') → LeavesInM (fw none) 0 P fn tmps R ds .returning w
  | [], w, _, h => h w rfl rfl rfl rfl (fun _ _ => rfl) (fun _ _ _ _ => rfl)
  | d :: ds, w, ⟨⟨D, h1, h2, h3, h4⟩, ht⟩, h => by
    refine ⟨by simp, .inl ⟨D, _, by rw [h1], run_takeDeferred h3, leaves (Marks.mono (by simp) ht fun D' hm hd => World.putObj_heap_other (by rintro rfl; exact h4 hm)) fun w' a1 a2 a3 a4 a5 a6 =>
      h w' a1 a2 a3 (a4.trans World.putObj_size) (fun k hk => (a5 k hk).trans (World.putObj_heap_other (by omega))) fun k o hc hd => ?_⟩⟩
    have hne : k ≠ D := by rintro rfl; rw [h3] at hc; cases hc; exact hd _ rfl
    have e := World.putObj_heap_other (w := w) (o := .deferred none) hne
    exact (a6 k o (e.trans hc) hd).trans e

/-- **A function, called so over such a heap, hands back something that is so, and leaves a heap that is so.** -/
def SoundR (P : Program) (f : FuncId) (H : Heap) (args : List C) (R : C → Heap → Prop) : Prop :=
  ∀ (w : World) (E : Env) (vs : Array Value), HRel w E H → LL E args vs.toList →
    Calls P f vs w fun e w' => ∃ r H' v E', R r H' ∧ e = .returned v ∧ HRel w' E' H' ∧ L E' r v ∧ Grow w E H w' E' H'

theorem SoundR.at {f : FuncId} {H H' : Heap} {args : List C} {r : C} (h : SoundR P f H args fun c X => c = r ∧ X = H') : SoundAt P f H args r H' := fun w E vs hh hl =>
  (h w E vs hh hl).mono fun e w' ⟨c, X, v, E', ⟨h1, h2⟩, h3⟩ => by subst h1 h2; exact ⟨v, E', h3⟩
theorem SoundAt.toR {f : FuncId} {H H' : Heap} {args : List C} {r : C} {R : C → Heap → Prop} (h : SoundAt P f H args r H') (hR : R r H') : SoundR P f H args R := fun w E vs hh hl =>
  (h w E vs hh hl).mono fun e w' ⟨v, E', h3⟩ => ⟨r, H', v, E', hR, h3⟩

/-- **A function's body runs to this: a call hands back that.** -/
theorem SoundR.of_run {f : FuncId} {fn : Func} {c : Code} {H : Heap} {args : List C} {R : C → Heap → Prop} (hf : P.funcs[f]? = some fn) (hb : fn.body = some c)
    (hr : RunR P H.length c ⟨entry fn args, H⟩ fun ex s1 => (ex = .ret ∨ ex = .normal) ∧ ∃ s2 r, Weak H.length s1 s2 ∧ resC P fn s2 = some r ∧ R r s2.H) : SoundR P f H args R := fun w E vs hh hl => by
  refine (callsIn_wide (n := 0)).1 (callsIn_of_wp_marks hf hb trivial (hr none w.heap.size w E _ _ (fun _ => rfl) ⟨hh, entry_LL hl, Nat.le_refl _, Nat.le_refl _⟩ fun ex s1 w' E1 a' hR hs1 g1 => ?_))
  obtain ⟨hex, s', r, hw, hres, hRr⟩ := hR
  obtain ⟨E', hs, g2⟩ := hw _ w' E1 a' hs1
  have g := g1.trans g2
  have key : LeavesInM (fw none) 0 P fn a'.tmps (fun e w' => ∃ r H' v E', R r H' ∧ e = .returned v ∧ HRel w' E' H' ∧ L E' r v ∧ Grow w E H w' E' H') a'.defers .returning w' := by
    refine leaves hs.defers fun w2 a1 a2 a3 a4 a5 a6 => ?_
    have hs2 : SRel H.length w.heap.size w2 E' s' { a' with defers := [] } := ⟨hs.heap.cells a6, hs.tmps, by show _ ≤ w2.heap.size; rw [a4]; exact g.size, hs.base⟩
    obtain ⟨v, h1, h2⟩ := run_resC hs2 hres
    have hg : Grow w E H w2 E' s'.H := ⟨⟨by rw [hh.n, hs.heap.n]; exact hs.base, fun id hops hi => g.le.β id hops (by rw [← hh.n]; exact hi), fun id hops hi => g.le.κ id hops (by rw [← hh.n]; exact hi), g.le.St, fun id k u hi => g.le.G id k u (by rw [← hh.n]; exact hi)⟩,
      a1.trans g.os, a2.trans g.tape, a3.trans g.output, by rw [a4]; exact g.size, fun k hk ho => (a5 k hk).trans (g.frame k hk ho), g.newSt, g.own⟩
    exact ⟨v, h1, r, s'.H, v, E', hRr, rfl, hs2.heap, h2, hg⟩
  rcases hex with rfl | rfl <;> exact key

theorem Owned.none {E : Env} {b : Nat} : ¬ Owned E [] b := fun h => by
  rcases h with ⟨id, hops, x, hx, _⟩ | ⟨id, ⟨ob, cap, hx, _⟩ | ⟨ob, r, t, hx, _⟩⟩
  · simp [getB] at hx
  · simp at hx
  · simp at hx

/-- What is handed back speaks of no object: all of the call's own are let go. -/
theorem SoundR.close {f : FuncId} {args : List C} {r : C} {R : C → Prop} (h : SoundR P f [] args fun c _ => R c) (hc : ∀ c, R c → c = r ∧ lowC 0 9 r = true) : SoundAt P f [] args r [] := fun w E vs hh hl => by
  refine (h w E vs hh hl).mono ?_
  rintro e w' ⟨c, H', v, E', hR, rfl, h1, h2, g⟩
  obtain ⟨rfl, hlow⟩ := hc c hR
  have h3 := h1.drop 0 (Nat.zero_le _) (by simp [rowsLow])
  rw [List.take_zero] at h3
  have hn : E.n = 0 := hh.n
  exact ⟨v, E'.cut 0, rfl, h3, h2.cut 0 9 hlow, ⟨⟨by rw [hn]; exact Nat.zero_le _, fun id hops hi => by rw [hn] at hi; omega, fun id hops hi => by rw [hn] at hi; omega, g.le.St, fun id k u hi => by rw [hn] at hi; omega⟩, g.os, g.tape, g.output, g.size, g.frame, g.newSt,
    fun b h => absurd h Owned.none⟩⟩

/-- **The same call over more objects.** -/
theorem SoundAt.frame {f : FuncId} {args : List C} {r : C} (h : SoundAt P f [] args r []) (ha : args.all (lowC 0 9) = true) (H : Heap) : SoundAt P f H args r H := fun w E vs hh hl => by
  have h0 : HRel w (E.cut 0) [] := by
    have := hh.drop 0 (Nat.zero_le _) (by simp [rowsLow])
    rw [List.take_zero] at this
    exact this
  have hl0 : LL (E.cut 0) args vs.toList := ⟨hl.1, fun i c y e1 e2 => (hl.2 i c y e1 e2).cut 0 9 (List.all_eq_true.1 ha c (List.mem_of_getElem? e1))⟩
  refine (h w (E.cut 0) vs h0 hl0).mono ?_
  rintro e w' ⟨v, E', rfl, h1, h2, g⟩
  have hle : E.le { E with St := E'.St } := ⟨Nat.le_refl _, fun _ _ _ => rfl, fun _ _ _ => rfl, fun b o u hu => g.le.St b o u hu, fun _ _ _ _ hu => hu⟩
  have hn : E'.n = 0 := h1.n
  have hsame : ∀ b, b < w.heap.size → w'.heap[b]? = w.heap[b]? := fun b hb => g.frame b hb Owned.none
  have hnew : ∀ b o u, E'.St b o = some u → E.St b o = some u ∨ w.heap.size ≤ b := fun b o u hu => by
    rcases g.newSt b o u hu with h5 | h5 | h5
    · exact .inl h5
    · exact .inr h5
    · exact absurd h5 Owned.none
  have hb := hh.base
  have hst : ∀ id hops x o u, getB H id hops = some x → E'.St (E.β id hops) o = some u → E.St (E.β id hops) o = some u := fun id hops x o u hx hu => by
    rcases hnew _ o u hu with h5 | h5
    · exact h5
    · have := hb.lt hx; omega
  have hR : HRel0 w' { E with St := E'.St } H := by
    refine ⟨hb.n, ?_, hb.inj, h1.base.stable, ?_, ?_, hb.fz⟩
    · intro id ob hops sz rows hob hx
      have hb' := hb.blk id ob hops sz rows hob hx
      exact hb'.step hle (by rw [hb.n]; exact getB_lt hx) (hsame _ hb'.heap_lt)
    · intro id hops x o u hx hu
      exact hb.sep id hops x o u hx (hst id hops x o u hx hu)
    · intro id ob hob hk
      obtain ⟨cur, hc⟩ := hb.ty id ob hob hk
      exact ⟨cur, by rw [← hc]; exact hsame _ (Array.getElem?_eq_some_iff.1 hc).1⟩
  have hG : Grow0 w E H w' { E with St := E'.St } H := ⟨hle, fun _ _ _ => rfl, g.os, g.tape, g.output, g.size, fun k hk _ => hsame k hk, fun b o u hu => (hnew b o u hu).imp_right .inl, fun b hb => .inr hb⟩
  refine ⟨v, { E with St := E'.St }, rfl, ⟨hR, Gro.step hh hG (Keep4.refl H)⟩, ?_, hG.up hh (Keep4.refl H)⟩
  have hz : ∀ {p : Prop} (id : Nat), id < E'.n → p := fun id hi => absurd hi (by rw [hn]; exact Nat.not_lt_zero _)
  have hle2 : Env.le E' { E with St := E'.St } := Env.le.mk (by rw [hn]; exact Nat.zero_le _) (fun id hops hi => hz id hi) (fun id hops hi => hz id hi) (fun b o u hu => hu) (fun id _ _ hi => hz id hi)
  exact L.mono hle2 h2

end
end Go.Ab
