/- Objects chosen, and named anew. -/
import Derived.Test.YtbndjpkncgfpiaaAbI
namespace Go.Ab
set_option linter.unusedVariables false

def posOf : List Nat → Nat → Nat → Option Nat
  | [], _, _ => none
  | x :: xs, i, id => if x == id then some i else posOf xs (i + 1) id

theorem posOf_spec : ∀ {sel : List Nat} {k id i : Nat}, posOf sel k id = some i → k ≤ i ∧ sel[i - k]? = some id
  | [], k, id, i, h => by simp [posOf] at h
  | x :: xs, k, id, i, h => by
    unfold posOf at h
    split at h
    · rename_i e
      cases h
      exact ⟨Nat.le_refl _, by simpa using e⟩
    · obtain ⟨h1, h2⟩ := posOf_spec h
      refine ⟨by omega, ?_⟩
      rw [show i - k = (i - (k + 1)) + 1 from by omega]
      simpa using h2

def renC (sel : List Nat) : Nat → C → C
  | 0, _ => .junk
  | k + 1, c => match c with
    | .ref id hops sz i j => match posOf sel 0 id with
      | some id' => .ref id' hops sz i j
      | none => .junk
    | .sl id hops sz lo len full => match posOf sel 0 id with
      | some id' => .sl id' hops sz lo len full
      | none => .junk
    | .mp id => match posOf sel 0 id with
      | some id' => .mp id'
      | none => .junk
    | .gl id sz rows => match posOf sel 0 id with
      | some id' => .gl id' sz rows
      | none => .lst 0 sz rows
    | .ifc t c => .ifc t (renC sel k c)
    | .rc r => .rc r
    | .agg cs => .agg (cs.map (renC sel k))
    | .tup cs => .tup (cs.map (renC sel k))
    | .fn f first caps => .fn f (first.map (renC sel k)) (caps.map (renC sel k))
    | .v x => .v x
    | .lst o sz rows => .lst o sz rows
    | .sref cells => .sref cells
    | .un => .un
    | .junk => .junk

def Env.ren (E : Env) (sel : List Nat) : Env := { n := sel.length, β := fun i hops => E.β ((sel[i]?).getD 0) hops, κ := fun i hops => E.κ ((sel[i]?).getD 0) hops, St := E.St, G := fun i k => E.G ((sel[i]?).getD 0) k }

theorem Env.ren_shut (E : Env) (sel : List Nat) : E.shut.le (E.ren sel).shut := ⟨Nat.le_refl _, fun id hops hi => absurd hi (Nat.not_lt_zero _), fun id hops hi => absurd hi (Nat.not_lt_zero _), fun b o u hu => hu, fun id _ _ hi => absurd hi (Nat.not_lt_zero _)⟩

theorem LL.ren {E E' : Env} {f : C → C} {cs : List C} {ys : List Value} (h : LL E cs ys) (hf : ∀ c y, L E c y → L E' (f c) y) : LL E' (cs.map f) ys :=
  ⟨by simpa using h.1, fun i c y e1 e2 => by
    rw [List.getElem?_map] at e1
    cases hx : cs[i]? with
    | none => rw [hx] at e1; cases e1
    | some c0 => rw [hx] at e1; cases e1; exact hf c0 y (h.2 i c0 y hx e2)⟩

theorem L.ren {E : Env} (sel : List Nat) : ∀ (k : Nat) {c : C} {y : Value}, L E c y → L (E.ren sel) (renC sel k c) y := by
  intro k
  induction k with
  | zero => intro c y h; exact .junk y
  | succ k ih =>
    intro c y h
    have pos : ∀ {id i}, posOf sel 0 id = some i → i < sel.length ∧ (sel[i]?).getD 0 = id := fun {id i} e => by
      obtain ⟨_, h2⟩ := posOf_spec e
      rw [Nat.sub_zero] at h2
      exact ⟨(List.getElem?_eq_some_iff.1 h2).1, by rw [h2]; rfl⟩
    cases h with
    | v x hx => exact .v _ hx
    | lst o sz rows b off cap us ho hc hsz hst hL =>
      exact .lst o sz rows b off cap us ho hc hsz hst (fun i r k c e1 e2 => (hL i r k c e1 e2).mono (E.ren_shut sel))
    | lnil o sz ho a => exact .lnil o sz ho a
    | sref cells b off us hst hL =>
      exact .sref cells b off us hst (fun k c e1 => (hL k c e1).mono (E.ren_shut sel))
    | ref id hops sz i j hn =>
      unfold renC
      dsimp only
      split
      · rename_i id' e
        obtain ⟨h1, h2⟩ := pos e
        have := L.ref (E := E.ren sel) id' hops sz i j h1
        simp only [Env.ren, h2] at this
        exact this
      · exact .junk _
    | sl id hops sz lo len full cap hn hlen hf hf' =>
      unfold renC
      dsimp only
      split
      · rename_i id' e
        obtain ⟨h1, h2⟩ := pos e
        have := L.sl (E := E.ren sel) id' hops sz lo len full cap h1 hlen hf (by simp only [Env.ren, h2]; exact hf')
        simp only [Env.ren, h2] at this
        exact this
      · exact .junk _
    | mp id hn =>
      unfold renC
      dsimp only
      split
      · rename_i id' e
        obtain ⟨h1, h2⟩ := pos e
        have := L.mp (E := E.ren sel) id' h1
        simp only [Env.ren, h2] at this
        exact this
      · exact .junk _
    | agg cs ys h1 h2 h3 =>
      have := LL.ren (f := renC sel k) (E' := E.ren sel) (cs := cs) (ys := ys.toList) ⟨by simpa using h1, fun i c y e1 e2 => h2 i c y e1 (by simpa using e2)⟩ (fun c y hl => ih hl)
      exact .agg _ ys (by simpa using this.1) (fun i c y e1 e2 => this.2 i c y e1 (by simpa using e2)) h3
    | tup cs ys h1 h2 =>
      have := LL.ren (f := renC sel k) (E' := E.ren sel) (cs := cs) (ys := ys.toList) ⟨by simpa using h1, fun i c y e1 e2 => h2 i c y e1 (by simpa using e2)⟩ (fun c y hl => ih hl)
      exact .tup _ ys (by simpa using this.1) (fun i c y e1 e2 => this.2 i c y e1 (by simpa using e2))
    | fn f first caps ys zs h1 h2 h3 h4 =>
      have t1 := LL.ren (f := renC sel k) (E' := E.ren sel) (cs := first) (ys := ys.toList) ⟨by simpa using h1, fun i c y e1 e2 => h3 i c y e1 (by simpa using e2)⟩ (fun c y hl => ih hl)
      have t2 := LL.ren (f := renC sel k) (E' := E.ren sel) (cs := caps) (ys := zs.toList) ⟨by simpa using h2, fun i c y e1 e2 => h4 i c y e1 (by simpa using e2)⟩ (fun c y hl => ih hl)
      exact .fn f _ _ ys zs (by simpa using t1.1) (by simpa using t2.1) (fun i c y e1 e2 => t1.2 i c y e1 (by simpa using e2)) (fun i c y e1 e2 => t2.2 i c y e1 (by simpa using e2))
    | un => exact .un
    | junk y => exact .junk y
    | gl id sz rows y hn hg hl =>
      unfold renC
      dsimp only
      split
      · rename_i id' e
        obtain ⟨h1, h2⟩ := pos e
        exact .gl id' sz rows y h1 (by simp only [Env.ren, h2]; exact hg) (hl.mono (E.ren_shut sel))
      · have h3 : E.shut.le (E.ren sel) := ⟨Nat.zero_le _, fun id hops hi => absurd hi (Nat.not_lt_zero _), fun id hops hi => absurd hi (Nat.not_lt_zero _), fun b o u hu => hu, fun id _ _ hi => absurd hi (Nat.not_lt_zero _)⟩
        exact hl.mono h3
    | ifc t c y hl => exact .ifc t _ y (ih hl)

theorem noOwn_ren (sel : List Nat) (k : Nat) {c : C} (h : noOwn c = true) : noOwn (renC sel k c) = true := by
  cases k with
  | zero => rfl
  | succ k =>
    cases c with
    | lst o sz rows => exact h
    | ref id hops sz i j => unfold renC; dsimp only; split <;> rfl
    | sl id hops sz lo len full => unfold renC; dsimp only; split <;> rfl
    | mp id => unfold renC; dsimp only; split <;> rfl
    | gl id sz rows => unfold renC; dsimp only; split <;> rfl
    | _ => rfl

def renOb (sel : List Nat) (ob : Ob) : Ob :=
  match ob with
  | ⟨kind, ty, sz, rows, fz⟩ => ⟨kind, ty, sz, match kind with
    | 2 => rows
    | 4 => rows
    | _ => rows.map fun r => r.map (renC sel 9), fz⟩

def dead : Ob := ⟨0, 0, 0, [], 0⟩

def renH (sel : List Nat) (H : Heap) : Heap := sel.map fun id => renOb sel ((H[id]?).getD dead)

def nodupB : List Nat → Bool
  | [] => true
  | x :: xs => !(xs.any (· == x)) && nodupB xs

theorem nodupB_spec : ∀ {l : List Nat}, nodupB l = true → ∀ (i j x : Nat), l[i]? = some x → l[j]? = some x → i = j
  | [], _, i, j, x, h, _ => by simp at h
  | y :: l, h, i, j, x, h1, h2 => by
    simp only [nodupB, Bool.and_eq_true, Bool.not_eq_true', List.any_eq_false] at h
    cases i with
    | zero =>
      cases j with
      | zero => rfl
      | succ j =>
        simp at h1 h2
        subst h1
        exact absurd (by simp) (h.1 _ (List.mem_of_getElem? h2))
    | succ i =>
      cases j with
      | zero =>
        simp at h1 h2
        subst h2
        exact absurd (by simp) (h.1 _ (List.mem_of_getElem? h1))
      | succ j =>
        simp at h1 h2
        rw [nodupB_spec h.2 i j x h1 h2]

/-- Only arrays own lists. -/
def flatH (H : Heap) : Bool := H.all fun ob => match ob.kind with
  | 1 => ob.rows.all fun r => r.all noOwn
  | 4 => ob.fz == 0 || (match ob.rows with | [[.rc _]] => true | _ => false)
  | _ => true

section
variable {B : Nat}

theorem renOb_get {sel : List Nat} {H : Heap} {i : Nat} {ob' : Ob} (h : (renH sel H)[i]? = some ob') (hall : sel.all (fun id => Nat.blt id H.length) = true) : ∃ id ob, sel[i]? = some id ∧ H[id]? = some ob ∧ ob' = renOb sel ob := by
  unfold renH at h
  rw [List.getElem?_map] at h
  cases hx : sel[i]? with
  | none => rw [hx] at h; cases h
  | some id =>
    rw [hx] at h
    have hlt : id < H.length := by
      have := List.all_eq_true.1 hall id (List.mem_of_getElem? hx)
      simpa [Nat.blt_eq] using this
    have h2 : H[id]? = some H[id] := by simp [hlt]
    simp only [Option.map_some, Option.some.injEq, h2, Option.getD_some] at h
    exact ⟨id, H[id], rfl, h2, h.symm⟩

theorem getB_renH {sel : List Nat} {H : Heap} {i : Nat} {hops : List Hop} {sz : Nat} {rows : List (List C)} (hall : sel.all (fun id => Nat.blt id H.length) = true) (hfl : flatH H = true) (h : getB (renH sel H) i hops = some (sz, rows)) :
    ∃ id ob rows0, sel[i]? = some id ∧ H[id]? = some ob ∧ getB H id hops = some (sz, rows0) ∧ ((ob.kind = 2 ∧ rows = rows0) ∨ (ob.kind = 1 ∧ hops = [] ∧ rows = rows0.map (fun r => r.map (renC sel 9)) ∧ ∀ r ∈ rows0, ∀ c ∈ r, noOwn c = true)) := by
  obtain ⟨ob', ho', hk', hg'⟩ := getB_ob h
  obtain ⟨id, ob, h1, h2, rfl⟩ := renOb_get ho' hall
  obtain ⟨kind, ty, sz0, rows0, fz⟩ := ob
  rcases hk' with hk | hk
  · have hk : kind = 1 := hk
    subst hk
    have hno : ∀ r ∈ rows0, ∀ c ∈ r, noOwn c = true := by
      have := List.all_eq_true.1 hfl _ (List.mem_of_getElem? h2)
      dsimp only at this
      simpa [List.all_eq_true] using this
    have hg2 : getT sz0 (rows0.map fun r => r.map (renC sel 9)) hops = some (sz, rows) := hg'
    obtain ⟨rfl, e⟩ := getT_flat (fun i k c hc => by
      unfold cellAt at hc
      rw [List.getElem?_map] at hc
      cases hx : rows0[i]? with
      | none => rw [hx] at hc; cases hc
      | some r =>
        rw [hx] at hc
        simp only [Option.map_some, Option.bind_some, List.getElem?_map] at hc
        cases hy : r[k]? with
        | none => rw [hy] at hc; cases hc
        | some c0 =>
          rw [hy] at hc
          cases hc
          exact noOwn_ren sel 9 (hno r (List.mem_of_getElem? hx) c0 (List.mem_of_getElem? hy))) hg2
    cases e
    exact ⟨id, _, rows0, h1, h2, by unfold getB; rw [h2]; simp [getT_nil], .inr ⟨rfl, rfl, rfl, hno⟩⟩
  · have hk : kind = 2 := hk
    subst hk
    exact ⟨id, _, rows, h1, h2, by unfold getB; rw [h2]; exact (show getT sz0 rows0 hops = _ from hg'), .inl ⟨rfl, rfl⟩⟩

theorem HRel0.ren {w : World} {E : Env} {H : Heap} (hh : HRel0 w E H) (sel : List Nat) (hall : sel.all (fun id => Nat.blt id H.length) = true) (hnd : nodupB sel = true) (hfl : flatH H = true) : HRel0 w (E.ren sel) (renH sel H) where
  n := by simp [Env.ren, renH]
  blk i ob' hops sz rows hob' hx := by
    obtain ⟨id, ob, rows0, h1, h2, h3, h4⟩ := getB_renH hall hfl hx
    obtain ⟨id2, ob2, e1, e2, rfl⟩ := renOb_get hob' hall
    rw [h1] at e1
    cases e1
    rw [h2] at e2
    cases e2
    have hb := hh.blk id ob hops sz rows0 h2 h3
    obtain ⟨cur, e, hg, hcs, hcell⟩ := hb.blk
    have hβ : ∀ hops, (E.ren sel).β i hops = E.β id hops := fun hops => by simp [Env.ren, h1]
    have hκ : ∀ hops, (E.ren sel).κ i hops = E.κ id hops := fun hops => by simp [Env.ren, h1]
    have hkind : (renOb sel ob).kind = ob.kind := by obtain ⟨kind, ty, sz, rows, fz⟩ := ob; rfl
    rw [hkind]
    rcases h4 with ⟨hk, rfl⟩ | ⟨hk, rfl, rfl, hno⟩
    · refine ⟨by rw [hκ]; exact hb.len, hb.row, cur, e, by rw [hβ]; exact hg, by rw [hκ]; exact hcs, ?_⟩
      intro i' k c hc
      obtain ⟨u, hu, ho⟩ := hcell i' k c hc
      refine ⟨u, hu, ?_⟩
      unfold CellOK at ho ⊢
      split at ho
      · rw [hβ, hκ]; exact ho
      · refine ⟨?_, ho.2⟩
        have h5 := ho.1
        simp only [Env.at, hk, if_true] at h5 ⊢
        exact h5.mono (E.ren_shut sel)
    · refine ⟨by rw [hκ]; simpa using hb.len, ?_, cur, e, by rw [hβ]; exact hg, by rw [hκ]; exact hcs, ?_⟩
      · intro r hr
        obtain ⟨r0, h5, rfl⟩ := List.mem_map.1 hr
        simpa using hb.row r0 h5
      · intro i' k c hc
        unfold cellAt at hc
        rw [List.getElem?_map] at hc
        cases hx1 : rows0[i']? with
        | none => rw [hx1] at hc; cases hc
        | some r =>
          rw [hx1] at hc
          simp only [Option.map_some, Option.bind_some, List.getElem?_map] at hc
          cases hy : r[k]? with
          | none => rw [hy] at hc; cases hc
          | some c0 =>
            rw [hy] at hc
            cases hc
            obtain ⟨u, hu, ho⟩ := hcell i' k c0 (by unfold cellAt; rw [hx1]; exact hy)
            have hn0 := hno r (List.mem_of_getElem? hx1) c0 (List.mem_of_getElem? hy)
            rw [CellOK.loose hn0] at ho
            refine ⟨u, hu, (CellOK.loose (noOwn_ren sel 9 hn0)).2 ⟨?_, ho.2⟩⟩
            have h5 := ho.1
            have hk2 : ¬ ob.kind = 2 := by rw [hk]; decide
            simp only [Env.at, if_neg hk2] at h5 ⊢
            exact h5.ren sel 9
  inj i hops i' hops' x y hx hy he := by
    obtain ⟨id, ob, rows0, h1, h2, h3, _⟩ := getB_renH hall hfl (sz := x.1) (rows := x.2) (by simpa using hx)
    obtain ⟨id', ob', rows0', h1', h2', h3', _⟩ := getB_renH hall hfl (sz := y.1) (rows := y.2) (by simpa using hy)
    simp only [Env.ren, h1, h1', Option.getD_some] at he
    obtain ⟨rfl, rfl⟩ := hh.inj id hops id' hops' _ _ h3 h3' he
    exact ⟨nodupB_spec hnd _ _ _ h1 h1', rfl⟩
  stable := hh.stable
  sep i hops x o u hx hu := by
    obtain ⟨id, ob, rows0, h1, h2, h3, _⟩ := getB_renH hall hfl (sz := x.1) (rows := x.2) (by simpa using hx)
    simp only [Env.ren, h1, Option.getD_some] at hu
    obtain ⟨e1, ob2, e2, e3⟩ := hh.sep id hops _ o u h3 hu
    rw [h2] at e2
    cases e2
    refine ⟨e1, renOb sel ob, ?_, ?_⟩
    · unfold renH
      rw [List.getElem?_map, h1]
      simp [h2]
    · obtain ⟨kind, ty, sz, rows, fz⟩ := ob; exact e3
  ty i ob' hob' hk := by
    obtain ⟨id, ob, h1, h2, rfl⟩ := renOb_get hob' hall
    obtain ⟨kind, ty, sz, rows, fz⟩ := ob
    obtain ⟨cur, hc⟩ := hh.ty id _ h2 hk
    exact ⟨cur, by simp only [Env.ren, h1, Option.getD_some]; exact hc⟩
  fz i ob' hob' := by
    obtain ⟨id, ob, h1, h2, rfl⟩ := renOb_get hob' hall
    obtain ⟨kind, ty, sz, rows, fz⟩ := ob
    have := hh.fz id _ h2
    dsimp only [renOb] at this ⊢
    split
    · exact this
    · exact this
    · simpa using this

def headB : Nat → Nat → List Nat → Bool
  | 0, _, _ => true
  | n + 1, k, x :: xs => x == k && headB n (k + 1) xs
  | _ + 1, _, [] => false

theorem headB_spec : ∀ {n k : Nat} {l : List Nat}, headB n k l = true → n ≤ l.length ∧ ∀ i, i < n → l[i]? = some (k + i)
  | 0, k, l, h => ⟨Nat.zero_le _, fun i hi => absurd hi (Nat.not_lt_zero _)⟩
  | n + 1, k, x :: xs, h => by
    simp only [headB, Bool.and_eq_true, beq_iff_eq] at h
    obtain ⟨h1, h2⟩ := headB_spec h.2
    refine ⟨by simpa using h1, fun i hi => ?_⟩
    cases i with
    | zero => simp [h.1]
    | succ i => simp [h2 i (by omega)]; omega
  | n + 1, k, [], h => by simp [headB] at h

theorem renOb_len (sel : List Nat) (ob : Ob) : (renOb sel ob).kind = ob.kind ∧ (renOb sel ob).ty = ob.ty ∧ (renOb sel ob).sz = ob.sz ∧ (renOb sel ob).rows.length = ob.rows.length := by
  obtain ⟨kind, ty, sz, rows, fz⟩ := ob
  refine ⟨rfl, rfl, rfl, ?_⟩
  unfold renOb
  dsimp only
  split <;> simp

theorem GroOwn.ren {E : Env} {H : Heap} {sel : List Nat} (hall : sel.all (fun id => Nat.blt id H.length) = true) {i b : Nat} (h : GroOwn (E.ren sel) (renH sel H) i b) : ∃ id, sel[i]? = some id ∧ GroOwn E H id b := by
  obtain ⟨ob', cap, h1, h2, h3, h4⟩ := h
  obtain ⟨id, ob, e1, e2, rfl⟩ := renOb_get h1 hall
  obtain ⟨l1, l2, l3, l4⟩ := renOb_len sel ob
  rw [l4] at h3 h4
  simp only [Env.ren, e1, Option.getD_some] at h3
  exact ⟨id, e1, ob, cap, e2, by rw [← l1]; exact h2, h3, h4⟩

theorem renOb_4 {sel : List Nat} {ob : Ob} (h : ob.kind = 4) : renOb sel ob = ob := by
  obtain ⟨kind, ty, sz, rows, fz⟩ := ob
  cases h
  rfl
theorem RecOwn.ren {H : Heap} {sel : List Nat} (hall : sel.all (fun id => Nat.blt id H.length) = true) {i b : Nat} (h : RecOwn (renH sel H) i b) : ∃ id, sel[i]? = some id ∧ RecOwn H id b := by
  obtain ⟨ob', r, t, h1, h2, h3, h4⟩ := h
  obtain ⟨id, ob, e1, e2, rfl⟩ := renOb_get h1 hall
  have hk4 : ob.kind = 4 := by rw [← (renOb_len sel ob).1]; exact h2
  rw [renOb_4 hk4] at h3 h4
  exact ⟨id, e1, ob, r, t, e2, hk4, h3, h4⟩

theorem Owned0.ren {E : Env} {H : Heap} {sel : List Nat} (hall : sel.all (fun id => Nat.blt id H.length) = true) (hfl : flatH H = true) {b : Nat} (h : Owned0 (E.ren sel) (renH sel H) b) : Owned0 E H b := by
  obtain ⟨i, hops, ⟨sz, rows⟩, hx, rfl⟩ := h
  obtain ⟨id, ob, rows0, h3, h4, h5, _⟩ := getB_renH hall hfl hx
  exact ⟨id, hops, _, h5, by simp [Env.ren, h3]⟩

theorem HRel.ren {w : World} {E : Env} {H : Heap} (hh : HRel w E H) (sel : List Nat) (hall : sel.all (fun id => Nat.blt id H.length) = true) (hnd : nodupB sel = true) (hfl : flatH H = true) : HRel w (E.ren sel) (renH sel H) where
  base := hh.base.ren sel hall hnd hfl
  gro := {
    val := fun i ob' h1 h2 => by
      obtain ⟨id, ob, e1, e2, rfl⟩ := renOb_get h1 hall
      obtain ⟨l1, l2, l3, l4⟩ := renOb_len sel ob
      rw [l4]
      simp only [Env.ren, e1, Option.getD_some]
      exact hh.gro.val id ob e2 (by rw [← l1]; exact h2)
    blk := fun i b ob' h1 h2 => by
      obtain ⟨id, e0, h3⟩ := h1.ren hall
      obtain ⟨id', ob, e1, e2, rfl⟩ := renOb_get h2 hall
      rw [e0] at e1
      cases e1
      obtain ⟨l1, l2, l3, l4⟩ := renOb_len sel ob
      rw [l2, l3, l4]
      simp only [Env.ren, e0, Option.getD_some]
      exact hh.gro.blk id b ob h3 e2
    sep := fun i b h1 h2 => by
      obtain ⟨id, e0, h3⟩ := h1.ren hall
      exact hh.gro.sep id b h3 (h2.ren hall hfl)
    inj := fun i i' b h1 h2 => by
      obtain ⟨id, e0, h3⟩ := h1.ren hall
      obtain ⟨id', e1, h4⟩ := h2.ren hall
      obtain rfl := hh.gro.inj id id' b h3 h4
      exact nodupB_spec hnd _ _ _ e0 e1
    st := fun i b ob' o u h1 h2 h3 => by
      obtain ⟨id, e0, h4⟩ := h1.ren hall
      obtain ⟨id', ob, e1, e2, rfl⟩ := renOb_get h2 hall
      rw [e0] at e1
      cases e1
      obtain ⟨l1, l2, l3, l4⟩ := renOb_len sel ob
      rw [l3, l4]
      exact hh.gro.st id b ob o u h4 e2 h3
    top := fun i ob' k u h1 h2 h3 => by
      obtain ⟨id, ob, e1, e2, rfl⟩ := renOb_get h1 hall
      obtain ⟨l1, l2, l3, l4⟩ := renOb_len sel ob
      rw [l4]
      simp only [Env.ren, e1, Option.getD_some] at h3
      exact hh.gro.top id ob k u e2 (by rw [← l1]; exact h2) h3
    lop := fun i ob' r t h1 h2 h3 => by
      obtain ⟨id, ob, e1, e2, rfl⟩ := renOb_get h1 hall
      have hk4 : ob.kind = 4 := by rw [← (renOb_len sel ob).1]; exact h2
      rw [renOb_4 hk4] at h3
      have := List.all_eq_true.1 hfl ob (List.mem_of_getElem? e2)
      rw [hk4, h3.2, h3.1] at this
      obtain ⟨p1, p2⟩ := hh.gro.lop id ob r t e2 hk4 h3
      have ht : t = [] := by
        cases t with
        | nil => rfl
        | cons c cs => simp at this
      subst ht
      rw [renOb_4 hk4]
      exact ⟨p1, p2.1, fun i c y e _ => by simp at e⟩
    rinj := fun i i' b h1 h2 => by
      obtain ⟨id, e0, h3⟩ := h1.ren hall
      obtain ⟨id', e1, h4⟩ := h2.ren hall
      obtain rfl := hh.gro.rinj id id' b h3 h4
      exact nodupB_spec hnd _ _ _ e0 e1 }

/-- **Objects chosen, and named anew**: the caller's stay. -/
theorem Weak.ren (sel m : List Nat) (t : List C) (H : Heap) (hB : headB B 0 sel = true) (hall : sel.all (fun id => Nat.blt id H.length) = true) (hnd : nodupB sel = true) (hfl : flatH H = true) : Weak B ⟨t, H⟩ ⟨(maskL m 0 t).map (renC sel 9), renH sel H⟩ := fun mm w E a hs => by
  obtain ⟨h1, h2⟩ := headB_spec hB
  refine ⟨E.ren sel, ⟨hs.heap.ren sel hall hnd hfl, ((maskL_WCs m t 0).LL hs.tmps).ren (fun c y hl => hl.ren sel 9), hs.defers, by simpa [renH] using h1⟩,
    ⟨⟨fun id hops hi => by simp [Env.ren, h2 id hi], fun id hops hi => by simp [Env.ren, h2 id hi], fun _ _ _ h => h, fun id k u hi hu => by simpa [Env.ren, h2 id hi] using hu⟩, rfl, rfl, rfl, Nat.le_refl _, fun _ _ _ => rfl, fun b o u hu => .inl hu, ?_⟩⟩
  rintro b (hb | ⟨i, hb | hb⟩)
  · exact .inr (.inl (hb.ren hall hfl))
  · obtain ⟨id, _, h3⟩ := hb.ren hall
    exact .inr (.inr ⟨id, .inl h3⟩)
  · obtain ⟨id, _, h3⟩ := hb.ren hall
    exact .inr (.inr ⟨id, .inr h3⟩)

end
end Go.Ab
