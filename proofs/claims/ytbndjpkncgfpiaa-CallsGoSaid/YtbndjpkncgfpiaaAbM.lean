/- Growing rows: a list that is appended to, known by value. -/
import Derived.Test.YtbndjpkncgfpiaaAbL
import Derived.Test.YtbndjpkncgfpiaaAbD
namespace Go.Ab
set_option linter.unusedVariables false

/-- A growing row as a list by value. -/
def asL : C → C
  | .gl _ sz rows => .lst 0 sz rows
  | c => c

theorem L.unshut {E : Env} {c : C} {y : Value} (h : L E.shut c y) : L E c y := h.mono E.shut_le
theorem asL_L {E : Env} {c : C} {y : Value} (h : L E c y) : L E (asL c) y := by
  cases h with
  | gl id sz rows y hn hg h => exact h.unshut
  | v x hx => exact .v _ hx
  | lst o sz rows b off cap us ho hc hsz hst hL => exact .lst o sz rows b off cap us ho hc hsz hst hL
  | lnil o sz ho a => exact .lnil o sz ho a
  | sref cells b off us hst hL => exact .sref cells b off us hst hL
  | ref id hops sz i k hn => exact .ref id hops sz i k hn
  | sl id hops sz lo len full cap hn hlen hf hf' => exact .sl id hops sz lo len full cap hn hlen hf hf'
  | fn f first caps ys zs h1 h2 h3 h4 => exact .fn f first caps ys zs h1 h2 h3 h4
  | mp id hn => exact .mp id hn
  | agg cs ys h1 h2 h3 => exact .agg cs ys h1 h2 h3
  | tup cs ys h1 h2 => exact .tup cs ys h1 h2
  | un => exact .un
  | junk y => exact .junk y
  | ifc t c y h => exact .ifc t c y h

section
variable {P : Program} {o : Oper} {ρ : Operand → C} {H : Heap}

/-- Operands that say less. -/
theorem OpV0.weaken {ρ' : Operand → C} {H' : Heap} {c : C} (hw : ∀ x (E : Env) y, L E (ρ x) y → L E (ρ' x) y) (h : OpV0 P o ρ' H c H') : OpV0 P o ρ H c H' :=
  fun w E σ hh hl K hk => h w E σ hh (fun x hx => hw x E (σ x) (hl x hx)) K hk
theorem OpV0.asL {H' : Heap} {c : C} (h : OpV0 P o (fun x => Ab.asL (ρ x)) H c H') : OpV0 P o ρ H c H' := h.weaken fun x E y hl => asL_L hl
theorem OpV.asL {H' : Heap} {c : C} (h : OpV P o (fun x => Ab.asL (ρ x)) H c H') : OpV P o ρ H c H' :=
  fun w E σ hh hl K hk => h w E σ hh (fun x hx => asL_L (hl x hx)) K hk

theorem OpV.same' {H' : Heap} {c : C} (h : OpV0 P o ρ H c H') (ob : Ob) (hk : ob.kind ≠ 4) (e : H' = H ++ [ob]) : OpV P o ρ H c H' := .of0 h (e ▸ Keep4.push H ob hk)

theorem Keep4.setB (H : Heap) (id : Nat) (hops : List Hop) (f : List (List C) → List (List C)) (h : ∀ ob, H[id]? = some ob → ob.kind ≠ 4) : Keep4 H (setB H id hops f) :=
  Keep4.modify H id _ fun ob hob => by
    have := h ob hob
    obtain ⟨kind, ty, sz, rows, fz⟩ := ob
    exact ⟨this, this⟩
theorem Keep4.killB (H : Heap) (id : Nat) (h : ∀ ob, H[id]? = some ob → ob.kind ≠ 4) : Keep4 H (killB H id) :=
  Keep4.modify H id _ fun ob hob => by
    have := h ob hob
    obtain ⟨kind, ty, sz, rows, fz⟩ := ob
    exact ⟨this, fun e => by cases e⟩

theorem storeH_keep {H' : Heap} {t : TypeId} {a x : C} (h : storeH P H t a x = some H') : Keep4 H H' := by
  unfold storeH at h
  split at h
  · rename_i id hops sz i k inf _
    split at h
    · rename_i sz' rows ob hg hob
      split at h
      · split at h
        · cases h
          refine Keep4.setB H id hops _ fun ob' h' => ?_
          obtain ⟨ob2, h2, h3, _⟩ := getB_ob hg
          rw [h2] at h'
          cases h'
          rcases h3 with e | e <;> rw [e] <;> decide
        · cases h
      · cases h
    · cases h
  · cases h

/-- A value with growing rows in it, as one of lists by value. -/
def shareC : C → C
  | .gl _ sz rows => .lst 0 sz rows
  | .agg cs => .agg (cs.map asL)
  | c => c

theorem shareC_L {E : Env} {c : C} {y : Value} (h : L E c y) : L E (shareC c) y := by
  cases c with
  | gl id sz rows => exact asL_L h
  | agg cs =>
    cases h with
    | agg _ ys h1 h2 h3 =>
      refine .agg _ ys (by simpa using h1) ?_ h3
      intro i c y e1 e2
      rw [List.getElem?_map] at e1
      cases hx : cs[i]? with
      | none => rw [hx] at e1; cases e1
      | some c0 => rw [hx] at e1; cases e1; exact asL_L (h2 i c0 y hx e2)
  | _ => exact h

/-! ### The same memory, other blocks turned -/

theorem HRel0.other {w w' : World} {E E' : Env} {H : Heap} (h : HRel0 w E H) (hle : E.le E') (hβ : E'.β = E.β) (hn : E'.n = E.n) (hsame : ∀ b, Owned0 E H b → w'.heap[b]? = w.heap[b]?)
    (hst : ∀ b o u, E'.St b o = some u → w'.cell? ⟨b, o, none⟩ = some u ∧ u.oneCell' = true) (hsep : ∀ b o u, Owned0 E H b → E'.St b o = some u → E.St b o = some u) : HRel0 w' E' H where
  n := by rw [hn, h.n]
  blk id ob hops sz rows hob hx := (h.blk id ob hops sz rows hob hx).step hle (by rw [h.n]; exact getB_lt hx) (hsame _ ⟨id, hops, _, hx, rfl⟩)
  inj id hops id' hops' x y hx hy he := h.inj id hops id' hops' x y hx hy (by rw [hβ] at he; exact he)
  stable := hst
  sep id hops x o u hx hu := by
    rw [hβ] at hu
    exact h.sep id hops x o u hx (hsep _ o u ⟨id, hops, x, hx, rfl⟩ hu)
  ty id ob hob hk := by
    obtain ⟨cur, hc⟩ := h.ty id ob hob hk
    exact ⟨cur, by rw [hβ, hsame _ ⟨id, [], _, by unfold getB; rw [hob]; simp [hk, getT_nil]; rfl, rfl⟩]; exact hc⟩
  fz := h.fz

theorem getB_set4 {H : Heap} {id : Nat} {ob ob' : Ob} (hob : H[id]? = some ob) (hk : ob.kind = 4) (hk' : ob'.kind = 4) (id' : Nat) (hops : List Hop) : getB (H.set id ob') id' hops = getB H id' hops := by
  unfold getB
  rw [List.getElem?_set]
  by_cases he : id = id'
  · subst he
    have hlt := (List.getElem?_eq_some_iff.1 hob).1
    rw [if_pos rfl, if_pos hlt, hob]
    simp [hk, hk']
  · rw [if_neg he]

theorem HRel0.set4 {w : World} {E : Env} {H : Heap} (h : HRel0 w E H) {id : Nat} {ob ob' : Ob} (hob : H[id]? = some ob) (hk : ob.kind = 4) (hk' : ob'.kind = 4) (hf : ob'.fz ≤ ob'.rows.length) : HRel0 w E (H.set id ob') where
  n := by rw [h.n]; simp
  blk id' ob2 hops sz rows hob2 hx := by
    rw [getB_set4 hob hk hk'] at hx
    obtain ⟨ob3, e1, e2, _⟩ := getB_ob hx
    have hne : id ≠ id' := by rintro rfl; rw [hob] at e1; cases e1; rw [hk] at e2; rcases e2 with e | e <;> cases e
    rw [List.getElem?_set, if_neg hne] at hob2
    exact h.blk id' ob2 hops sz rows hob2 hx
  inj id1 p1 id2 p2 x y hx hy he := h.inj id1 p1 id2 p2 x y (by rw [← getB_set4 hob hk hk']; exact hx) (by rw [← getB_set4 hob hk hk']; exact hy) he
  stable := h.stable
  sep id' hops x o u hx hu := by
    rw [getB_set4 hob hk hk'] at hx
    obtain ⟨e1, ob2, e2, e3⟩ := h.sep id' hops x o u hx hu
    obtain ⟨ob3, e4, e5, _⟩ := getB_ob hx
    have hne : id ≠ id' := by rintro rfl; rw [hob] at e4; cases e4; rw [hk] at e5; rcases e5 with e | e <;> cases e
    exact ⟨e1, ob2, by rw [List.getElem?_set, if_neg hne]; exact e2, e3⟩
  ty id' ob2 hob2 hk2 := by
    rw [List.getElem?_set] at hob2
    split at hob2
    · split at hob2
      · cases hob2; rw [hk'] at hk2; cases hk2
      · cases hob2
    · exact h.ty id' ob2 hob2 hk2
  fz id' ob2 hob2 := by
    rw [List.getElem?_set] at hob2
    split at hob2
    · split at hob2
      · cases hob2; exact hf
      · cases hob2
    · exact h.fz id' ob2 hob2

theorem Owned0.set4 {E E' : Env} {H : Heap} {id : Nat} {ob ob' : Ob} (hob : H[id]? = some ob) (hk : ob.kind = 4) (hk' : ob'.kind = 4) (hβ : E'.β = E.β) {b : Nat} : Owned0 E' (H.set id ob') b ↔ Owned0 E H b := by
  unfold Owned0
  constructor
  · rintro ⟨i, hops, x, hx, rfl⟩; exact ⟨i, hops, x, by rw [← getB_set4 hob hk hk']; exact hx, by rw [hβ]⟩
  · rintro ⟨i, hops, x, hx, rfl⟩; exact ⟨i, hops, x, by rw [getB_set4 hob hk hk']; exact hx, by rw [hβ]⟩

/-- A growing row has grown. -/
def Env.grown (E : Env) (id nb k n : Nat) (cur : Array Value) (v : Value) : Env :=
  { E with St := fun b o => if b = nb ∧ o < n then cur[o]? else E.St b o, G := fun i j => if i = id ∧ j = k then some v else E.G i j }

theorem HRel.grown {w w' : World} {E : Env} {H : Heap} (hh : HRel w E H) {id : Nat} {ob : Ob} (hob : H[id]? = some ob) (hk : ob.kind = 4) {rows : List (List C)} (hlt : ob.rows.length < rows.length)
    {nb cap : Nat} {cur : Array Value} (hos : w'.os = w.os) (htape : w'.tape = w.tape) (hout : w'.output = w.output) (hsize : w.heap.size ≤ w'.heap.size)
    (hother : ∀ k, k < w.heap.size → k ≠ nb → w'.heap[k]? = w.heap[k]?) (hnb : w'.heap[nb]? = some (.cells cur ob.ty (0, 0))) (hcs : cur.size = cap * ob.sz) (hcap : rows.length ≤ cap)
    (hown : GroOwn E H id nb ∨ w.heap.size ≤ nb) (hkeep : ∀ o u, E.St nb o = some u → cur[o]? = some u) (hin : ∀ o u, E.St nb o = some u → o < rows.length * ob.sz)
    (hone : ∀ (o : Nat) u, o < rows.length * ob.sz → cur[o]? = some u → u.oneCell' = true) :
    HRel w' (E.grown id nb rows.length (rows.length * ob.sz) cur (.slice (some ⟨nb, 0, none⟩) rows.length cap)) (H.set id ⟨4, ob.ty, ob.sz, rows, 0⟩) ∧
      Grow w E H w' (E.grown id nb rows.length (rows.length * ob.sz) cur (.slice (some ⟨nb, 0, none⟩) rows.length cap)) (H.set id ⟨4, ob.ty, ob.sz, rows, 0⟩) := by
  obtain ⟨E', hE'⟩ : ∃ E', E' = E.grown id nb rows.length (rows.length * ob.sz) cur (.slice (some ⟨nb, 0, none⟩) rows.length cap) := ⟨_, rfl⟩
  obtain ⟨ob', hob'⟩ : ∃ ob' : Ob, ob' = ⟨4, ob.ty, ob.sz, rows, 0⟩ := ⟨_, rfl⟩
  rw [← hE', ← hob']
  have hid : id < E.n := by rw [hh.n]; exact (List.getElem?_eq_some_iff.1 hob).1
  have hk' : ob'.kind = 4 := by rw [hob']
  have hβ : E'.β = E.β := by rw [hE']; rfl
  have hn : E'.n = E.n := by rw [hE']; rfl
  have hSt : ∀ b o, E'.St b o = if b = nb ∧ o < rows.length * ob.sz then cur[o]? else E.St b o := fun b o => by rw [hE']; rfl
  have hG : ∀ i j, E'.G i j = if i = id ∧ j = rows.length then some (.slice (some ⟨nb, 0, none⟩) rows.length cap) else E.G i j := fun i j => by rw [hE']; rfl
  have hno0 : ¬ Owned0 E H nb := fun hc => by
    rcases hown with h1 | h1
    · exact hh.gro.sep id nb h1 hc
    · obtain ⟨i, hops, x, hx, e⟩ := hc
      have := hh.base.lt hx
      omega
  have hle : E.le E' := by
    refine ⟨by rw [hn]; exact Nat.le_refl _, fun i hops _ => by rw [hβ], fun i hops _ => by rw [hE']; rfl, ?_, ?_⟩
    · intro b o u hu
      rw [hSt]
      split
      · rename_i h; obtain ⟨rfl, h⟩ := h; exact hkeep o u hu
      · exact hu
    · intro i k u _ hu
      rw [hG]
      split
      · rename_i h
        obtain ⟨rfl, rfl⟩ := h
        have := hh.gro.top _ ob _ u hob hk hu
        omega
      · exact hu
  have hStN : ∀ b o u, E'.St b o = some u → E.St b o = some u ∨ (b = nb ∧ o < rows.length * ob.sz ∧ cur[o]? = some u) := by
    intro b o u hu
    rw [hSt] at hu
    split at hu
    · rename_i h; exact .inr ⟨h.1, h.2, hu⟩
    · exact .inl hu
  have hgetS : ∀ i, i ≠ id → (H.set id ob')[i]? = H[i]? := fun i hi => by rw [List.getElem?_set, if_neg (Ne.symm hi)]
  have hgetI : (H.set id ob')[id]? = some ob' := by rw [List.getElem?_set, if_pos rfl, if_pos (List.getElem?_eq_some_iff.1 hob).1]
  have hGo : ∀ i b, i ≠ id → (GroOwn E' (H.set id ob') i b ↔ GroOwn E H i b) := by
    intro i b hi
    unfold GroOwn
    rw [hgetS i hi]
    constructor
    · rintro ⟨ob2, c2, h1, h2, h3, h4⟩
      rw [hG, if_neg (fun h => hi h.1)] at h3
      exact ⟨ob2, c2, h1, h2, h3, h4⟩
    · rintro ⟨ob2, c2, h1, h2, h3, h4⟩
      exact ⟨ob2, c2, h1, h2, by rw [hG, if_neg (fun h => hi h.1)]; exact h3, h4⟩
  have hGi : ∀ b, GroOwn E' (H.set id ob') id b → b = nb := by
    rintro b ⟨ob2, c2, h1, h2, h3, h4⟩
    rw [hgetI] at h1
    simp only [Option.some.injEq] at h1
    subst h1
    rw [hG, if_pos ⟨rfl, by rw [hob']⟩] at h3
    simp only [Option.some.injEq, Value.slice.injEq, Addr.mk.injEq] at h3
    exact h3.1.1.symm
  have hne : ∀ i b, i ≠ id → GroOwn E H i b → b ≠ nb := by
    intro i b hi hg he
    subst he
    rcases hown with h1 | h1
    · exact hi (hh.gro.inj i id b hg h1)
    · obtain ⟨ob2, c1, e1, e2⟩ := hg
      obtain ⟨cur2, c2, _, e3, _⟩ := hh.gro.blk i b ob2 ⟨ob2, c1, e1, e2⟩ e1
      have := (Array.getElem?_eq_some_iff.1 e3).1
      omega
  have hlt2 : ∀ i b, GroOwn E H i b → b < w.heap.size := by
    intro i b hg
    obtain ⟨ob2, c2, e1, e2⟩ := (hg : GroOwn E H i b)
    have hg : GroOwn E H i b := ⟨ob2, c2, e1, e2⟩
    obtain ⟨cur2, c2, _, e3, _⟩ := hh.gro.blk i b ob2 hg e1
    exact (Array.getElem?_eq_some_iff.1 e3).1
  have hR : HRel0 w' E' (H.set id ob') := by
    refine HRel0.set4 (hh.base.other hle hβ hn ?_ ?_ ?_) hob hk hk' (by rw [hob']; exact Nat.zero_le _)
    · rintro b ⟨i, hops, x, hx, rfl⟩
      refine hother _ (hh.base.lt hx) fun he => hno0 ?_
      rw [← he]
      exact ⟨i, hops, x, hx, rfl⟩
    · intro b o u hu
      rcases hStN b o u hu with h1 | ⟨rfl, h2, h3⟩
      · obtain ⟨h4, h5⟩ := hh.base.stable b o u h1
        refine ⟨?_, h5⟩
        by_cases hb : b = nb
        · subst hb
          unfold World.cell?
          rw [hnb]
          simpa using hkeep o u h1
        · unfold World.cell? at h4 ⊢
          rw [hother b (cell_lt (hh.base.stable b o u h1).1) hb]
          exact h4
      · exact ⟨by unfold World.cell?; rw [hnb]; simpa using h3, hone o u h2 h3⟩
    · intro b o u hb hu
      rcases hStN b o u hu with h1 | ⟨rfl, h2, h3⟩
      · exact h1
      · exact absurd hb hno0
  have hrne : ∀ b o, w.heap[b]? = some o → foreign o = true → b ≠ nb := by
    rintro b o hb hf rfl
    rcases hown with h1 | h1
    · obtain ⟨ob2, c1, e1, e2⟩ := h1
      obtain ⟨cur2, c2, _, e3, _⟩ := hh.gro.blk id b ob2 ⟨ob2, c1, e1, e2⟩ e1
      rw [hb] at e3
      cases e3
      cases hf
    · have := (Array.getElem?_eq_some_iff.1 hb).1
      omega
  have hrb : ∀ i b, RecOwn (H.set id ob') i b → RecOwn H i b := by
    rintro i b ⟨ob2, r, t, h1, h2, h3, h4⟩
    by_cases hi : i = id
    · subst hi
      rw [hgetI] at h1
      cases h1
      exact absurd h3.2 (by rw [hob']; simp)
    · rw [hgetS i hi] at h1
      exact ⟨ob2, r, t, h1, h2, h3, h4⟩
  refine ⟨⟨hR, ?_, ?_, ?_, ?_, ?_, ?_, ?_, fun i j b h1 h2 => hh.gro.rinj i j b (hrb i b h1) (hrb j b h2)⟩, ⟨hle, hos, htape, hout, hsize, ?_, ?_, ?_⟩⟩
  · intro i ob2 h1 h2
    by_cases hi : i = id
    · subst hi
      rw [hgetI] at h1
      cases h1
      refine ⟨some ⟨nb, 0, none⟩, cap, ?_, .inr ⟨nb, rfl, ?_⟩⟩
      · rw [hG, if_pos ⟨rfl, by rw [hob']⟩, hob']
      · rw [hob']; exact hcap
    · rw [hgetS i hi] at h1
      rw [hG, if_neg (fun h => hi h.1)]
      exact hh.gro.val i ob2 h1 h2
  · intro i b ob2 h1 h2
    by_cases hi : i = id
    · subst hi
      obtain rfl := hGi b h1
      rw [hgetI] at h2
      cases h2
      refine ⟨cur, cap, ?_, ?_, ?_⟩
      · rw [hG, if_pos ⟨rfl, by rw [hob']⟩, hob']
      · rw [hob']; exact hnb
      · rw [hob']; exact hcs
    · have h1' := (hGo i b hi).1 h1
      rw [hgetS i hi] at h2
      obtain ⟨cur2, c2, e1, e2, e3⟩ := hh.gro.blk i b ob2 h1' h2
      refine ⟨cur2, c2, ?_, ?_, e3⟩
      · rw [hG, if_neg (fun h => hi h.1)]; exact e1
      · rw [hother b (hlt2 i b h1') (hne i b hi h1')]; exact e2
  · intro i b h1 h2
    rw [Owned0.set4 hob hk hk' hβ] at h2
    by_cases hi : i = id
    · subst hi
      obtain rfl := hGi b h1
      exact hno0 h2
    · exact hh.gro.sep i b ((hGo i b hi).1 h1) h2
  · intro i j b h1 h2
    by_cases hi : i = id
    · by_cases hj : j = id
      · rw [hi, hj]
      · subst hi
        have := hGi b h1
        exact absurd this (hne j b hj ((hGo j b hj).1 h2))
    · by_cases hj : j = id
      · subst hj
        have := hGi b h2
        exact absurd this (hne i b hi ((hGo i b hi).1 h1))
      · exact hh.gro.inj i j b ((hGo i b hi).1 h1) ((hGo j b hj).1 h2)
  · intro i b ob2 o u h1 h2 h3
    by_cases hi : i = id
    · subst hi
      obtain rfl := hGi b h1
      rw [hgetI] at h2
      cases h2
      rw [hob']
      rcases hStN b o u h3 with h4 | ⟨_, h4, _⟩
      · exact hin o u h4
      · exact h4
    · have h1' := (hGo i b hi).1 h1
      rw [hgetS i hi] at h2
      rcases hStN b o u h3 with h4 | ⟨h4, _⟩
      · exact hh.gro.st i b ob2 o u h1' h2 h4
      · exact absurd h4 (hne i b hi h1')
  · intro i ob2 k u h1 h2 h3
    by_cases hi : i = id
    · subst hi
      rw [hgetI] at h1
      cases h1
      rw [hob']
      rw [hG] at h3
      split at h3
      · rename_i h; rw [h.2]; exact Nat.le_refl _
      · have := hh.gro.top i ob k u hob hk h3
        show k ≤ rows.length
        omega
    · rw [hgetS i hi] at h1
      rw [hG, if_neg (fun h => hi h.1)] at h3
      exact hh.gro.top i ob2 k u h1 h2 h3
  · intro i ob2 r t h1 h2 h3
    by_cases hi : i = id
    · subst hi
      rw [hgetI] at h1
      cases h1
      exact absurd h3.2 (by rw [hob']; simp)
    · rw [hgetS i hi] at h1
      obtain ⟨⟨e, hf⟩, hl⟩ := hh.gro.lop i ob2 r t h1 h2 h3
      refine ⟨⟨?_, hf⟩, hl.mono hle⟩
      rw [hother _ (Array.getElem?_eq_some_iff.1 e).1 (hrne _ r e hf)]
      exact e
  · intro k h1 h2
    refine hother k h1 ?_
    rintro rfl
    rcases hown with h3 | h3
    · exact h2 (.inr ⟨id, .inl h3⟩)
    · omega
  · intro b o u hu
    rcases hStN b o u hu with h4 | ⟨rfl, h4, _⟩
    · exact .inl h4
    · exact hown.elim (fun h => .inr (.inr (.inr ⟨id, .inl h⟩))) (fun h => .inr (.inl h))
  · rintro b (hb | ⟨i, hb | hb⟩)
    · rw [Owned0.set4 hob hk hk' hβ] at hb
      exact .inr (.inl hb)
    · by_cases hi : i = id
      · subst hi
        obtain rfl := hGi b hb
        exact hown.elim (fun h => .inr (.inr ⟨i, .inl h⟩)) .inl
      · exact .inr (.inr ⟨i, .inl ((hGo i b hi).1 hb)⟩)
    · exact .inr (.inr ⟨i, .inr (hrb i b hb)⟩)

/-- Rows that lie at a block's beginning and never change. -/
theorem L_grown {E : Env} {id nb k cap sz : Nat} {rows : List (List C)} {vals : List Value} {cur : Array Value} (hid : id < E.n) (hr : RowsL E sz rows vals) (htake : cur.toList.take vals.length = vals) (hcap : rows.length ≤ cap)
    (hle : E.le (E.grown id nb rows.length (rows.length * sz) cur (.slice (some ⟨nb, 0, none⟩) rows.length cap))) :
    L (E.grown id nb rows.length (rows.length * sz) cur (.slice (some ⟨nb, 0, none⟩) rows.length cap)) (.gl id sz rows) (.slice (some ⟨nb, 0, none⟩) rows.length cap) := by
  obtain ⟨E', hE'⟩ : ∃ E', E' = E.grown id nb rows.length (rows.length * sz) cur (.slice (some ⟨nb, 0, none⟩) rows.length cap) := ⟨_, rfl⟩
  rw [← hE'] at hle ⊢
  have hSt : ∀ o u, o < rows.length * sz → cur[o]? = some u → E'.St nb o = some u := fun o u h1 h2 => by
    rw [hE']
    show (if nb = nb ∧ o < rows.length * sz then cur[o]? else _) = some u
    rw [if_pos ⟨rfl, h1⟩]; exact h2
  have cell : ∀ i r k c, rows[i]? = some r → r[k]? = some c → ∃ u, cur[i * sz + k]? = some u ∧ i * sz + k < rows.length * sz ∧ L E.shut c u := by
    intro i r k c h1 h2
    have hc : cellAt rows i k = some c := by unfold cellAt; rw [h1]; exact h2
    obtain ⟨u, hu, hl⟩ := hr.cell i k c hc
    have hlt := (List.getElem?_eq_some_iff.1 hu).1
    refine ⟨u, ?_, by rw [← hr.len]; exact hlt, hl⟩
    rw [← htake, List.getElem?_take, if_pos hlt] at hu
    simpa using hu
  refine .gl id sz rows _ ?_ ?_ ?_
  · rw [hE']; exact hid
  · rw [hE']
    show (if id = id ∧ rows.length = rows.length then _ else _) = _
    rw [if_pos ⟨rfl, rfl⟩]
  · refine .lst (E := E'.shut) 0 sz rows nb 0 cap (fun i k => (cur[i * sz + k]?).getD undef) (.inl rfl) hcap hr.row ?_ ?_
    · intro i r k c h1 h2
      obtain ⟨u, hu, hlt, _⟩ := cell i r k c h1 h2
      rw [Nat.zero_add, hu]
      exact hSt _ u hlt hu
    · intro i r k c h1 h2
      obtain ⟨u, hu, _, hl⟩ := cell i r k c h1 h2
      rw [hu]
      exact hl.mono hle.shut

/-- An append to a growing row, whole. -/
theorem OpV.appendGl1 (cl : Call) (ho : o.op = .call cl) (x y : Operand) {e : TypeId} {i : TypeInfo} {z : Value} (ht : AppT P cl x y e i z) {id : Nat} {rows : List (List C)} (hx : ρ x = .gl id i.size rows) {ob : Ob} (hob : H[id]? = some ob)
    (hkd : ob.kind = 4) (hty : ob.ty = e) (hsz : ob.sz = i.size) (hn : ob.rows.length = rows.length)
    {rows' : List (List C)} (hy : rowsC H (Ab.asL (ρ y)) = some (i.size, rows')) (hne : rows' ≠ []) (hm : rows.length + rows'.length ≤ maxLen) (hb : (rows.length + rows'.length) * i.bytes ≤ 140737488355328) :
    OpV P o ρ H (.gl id i.size (rows ++ rows')) (H.set id ⟨4, e, i.size, rows ++ rows', 0⟩) := fun w E σ hh hl K hk => by
  have h0 := hl x (by simp [ho, Op.operands, Call.operands, ht.callee, ht.args])
  have h1 := asL_L (hl y (by simp [ho, Op.operands, Call.operands, ht.callee, ht.args]))
  obtain ⟨t, hu, hexec⟩ := exec_append ho ht σ w
  have hpos : 0 < rows'.length := List.length_pos_iff.2 hne
  have hsmall : rows.length + rows'.length ≤ 9223372036854775807 := by simp only [maxLen] at hm; omega
  rcases rowsC_mem hh.base h1 hy with ⟨e1, _⟩ | ⟨a, cap, vals, e1, _, hrows, hmem⟩
  · exact absurd e1 hne
  rw [hx] at h0
  obtain ⟨hid, hg, hlst⟩ : id < E.n ∧ E.G id rows.length = some (σ x) ∧ L E.shut (.lst 0 i.size rows) (σ x) := by
    generalize σ x = u at h0 ⊢
    cases h0 with
    | gl id sz rows y hn hg h => exact ⟨hn, hg, h⟩
  obtain ⟨a0, cap0, g1, g2⟩ := hh.gro.val id ob hob hkd
  rw [hn] at g1 g2
  rw [hg] at g1
  have hxv : σ x = .slice a0 rows.length cap0 := by simpa using g1
  rw [hxv] at hg
  have hrx : rowsC H (.lst 0 i.size rows) = some (i.size, rows) := by simp [rowsC]
  have hz := ht.zsize
  -- what follows, told of the new block
  have hlen : (rows ++ rows').length = rows.length + rows'.length := List.length_append
  have fin : ∀ (w' : World) (olds : List Value) (nb cap' : Nat) (cur' : Array Value), RowsL E i.size rows olds → w'.os = w.os → w'.tape = w.tape → w'.output = w.output → w.heap.size ≤ w'.heap.size →
      (∀ k, k < w.heap.size → k ≠ nb → w'.heap[k]? = w.heap[k]?) → w'.heap[nb]? = some (.cells cur' e (0, 0)) → cur'.size = cap' * i.size → rows.length + rows'.length ≤ cap' →
      (GroOwn E H id nb ∨ w.heap.size ≤ nb) → (∀ o u, E.St nb o = some u → cur'[o]? = some u) → (∀ o u, E.St nb o = some u → o < rows.length * i.size) → cur'.toList.take (olds ++ vals).length = olds ++ vals →
      (Builtin.append_ #[t, t] o.type #[σ x, σ y]).run P w = .ok (.slice (some ⟨nb, 0, none⟩) (rows.length + rows'.length) cap') w' → upV P K ((execOp σ o).run P w) := by
    intro w' olds nb cap' cur' hro hos htape hout hsize hother hnb hcs hcap hown hkeep hin htake hr
    rw [hexec _ _ hr]
    have hall := hro.append hrows
    have hG := hh.grown hob hkd (rows := rows ++ rows') (w' := w') (nb := nb) (cap := cap') (cur := cur') (by rw [hn, hlen]; omega) hos htape hout hsize hother (by rw [hty]; exact hnb) (by rw [hsz]; exact hcs) (by rw [hlen]; exact hcap) hown hkeep
      (fun o u hu => by rw [hsz, hlen]; exact Nat.lt_of_lt_of_le (hin o u hu) (Nat.mul_le_mul_right _ (by omega)))
      (fun o u h2 h3 => by
        have hlt : o < (olds ++ vals).length := by rw [hall.len, ← hsz]; exact h2
        refine hall.one u ?_
        rw [← htake]
        refine List.mem_of_getElem? (i := o) ?_
        rw [List.getElem?_take, if_pos hlt]
        simpa using h3)
    have hL := L_grown (E := E) (id := id) (nb := nb) (k := 0) (cap := cap') (cur := cur') hid hall htake (by rw [hlen]; exact hcap) (by rw [← hsz]; exact hG.2.le)
    rw [hsz, hty] at hG
    rw [hlen] at hG hL
    exact hk _ _ _ hG.1 hL hG.2
  have anew : ∀ olds, RowsL E i.size rows olds → (Builtin.append_ #[t, t] o.type #[σ x, σ y]).run P w = .ok (.slice (some ⟨w.heap.size, 0, none⟩) (rows.length + rows'.length) (grownCap w (rows.length + rows'.length) cap0 e))
      (w.drew.alloc (.cells ((olds ++ vals).toArray ++ Builtin.zeroCells z.cells (grownCap w (rows.length + rows'.length) cap0 e - (rows.length + rows'.length))) e)) → upV P K ((execOp σ o).run P w) := by
    intro olds hro hr
    have hall := hro.append hrows
    obtain ⟨cap', hcap2⟩ : ∃ cap', cap' = grownCap w (rows.length + rows'.length) cap0 e := ⟨_, rfl⟩
    have hge : rows.length + rows'.length ≤ cap' := by rw [hcap2]; exact grownCap_ge w _ _ e
    rw [← hcap2] at hr
    have hnone : ∀ o u, E.St w.heap.size o = some u → False := fun o u hu => by
      have := cell_lt (hh.base.stable _ o u hu).1
      omega
    refine fin (w.drew.alloc (.cells ((olds ++ vals).toArray ++ Builtin.zeroCells z.cells (cap' - (rows.length + rows'.length))) e)) olds w.heap.size cap' ((olds ++ vals).toArray ++ Builtin.zeroCells z.cells (cap' - (rows.length + rows'.length))) hro rfl rfl rfl ?_ ?_ ?_ ?_ hge (.inr (Nat.le_refl _)) (fun o u hu => (hnone o u hu).elim) (fun o u hu => (hnone o u hu).elim) ?_ hr
    · show _ ≤ (w.heap.push _).size; simp
    · exact fun k hk _ => heap_alloc_old w.drew _ hk
    · exact heap_alloc_new w.drew _
    · have h2 : (olds ++ vals).length = (rows.length + rows'.length) * i.size := by rw [hall.len, List.length_append]
      simp only [Array.size_append, List.size_toArray, size_zeroCells, hz]
      rw [h2, ← Nat.add_mul]
      congr 1
      omega
    · rw [Array.toList_append]; exact List.take_left
  rcases rowsC_mem hh.base hlst.unshut hrx with ⟨e2, e3⟩ | ⟨b, cap', olds, e3, hcap', hro, hmo⟩
  · subst e2
    have hro : RowsL E i.size [] [] := ⟨by simp, by simp, by simp [cellAt], by simp⟩
    have hc0 : cap0 = 0 := by rw [hxv] at e3; cases e3; rfl
    have hr := run_append_nil (P := P) w t o.type e i z hu ht.info ht.zero a rows'.length cap vals hrows.len hmem hpos (by simp at hsmall; omega) (by simp at hb; omega)
    rw [← e3, ← e1] at hr
    refine anew [] hro ?_
    subst hc0
    simpa using hr
  · rw [hxv] at e3
    cases e3
    by_cases hroom : rows.length + rows'.length ≤ cap0
    · -- in place
      have hcn : cap0 ≠ rows.length := by omega
      obtain ⟨nb, hb2, _⟩ : ∃ nb, (some b : Option Addr) = some ⟨nb, 0, none⟩ ∧ rows.length ≤ cap0 := by
        rcases g2 with h2 | h2
        · exact absurd h2 hcn
        · exact h2
      cases hb2
      have hown : GroOwn E H id nb := ⟨ob, cap0, hob, hkd, by rw [hn]; exact hg, by rw [hn]; exact hcn⟩
      obtain ⟨cur, cap2, f1, hgb, hcs⟩ := hh.gro.blk id nb ob hown hob
      rw [hn, hg] at f1
      cases f1
      rw [hty] at hgb
      rw [hsz] at hcs
      have hfit : rows.length * i.size + vals.length ≤ cur.size := by rw [hrows.len, hcs, ← Nat.add_mul]; exact Nat.mul_le_mul_right _ hroom
      have hr := run_append_room (P := P) w t o.type e i hu ht.info nb rows.length cap0 cur hgb a rows'.length cap vals hrows.len hmem hrows.one hroom hfit
      rw [← hxv, ← e1] at hr
      obtain ⟨cur', hcur'⟩ : ∃ cur', cur' = (cur.toList.take (rows.length * i.size) ++ vals ++ cur.toList.drop (rows.length * i.size + vals.length)).toArray := ⟨_, rfl⟩
      rw [← hcur'] at hr
      have hlo : rows.length * i.size = olds.length := hro.len.symm
      have hbl : nb < w.heap.size := (Array.getElem?_eq_some_iff.1 hgb).1
      have holds : cur.toList.take olds.length = olds := by
        apply List.ext_getElem?
        intro j
        rw [List.getElem?_take]
        split
        · rename_i hj
          have h3 := hmo j olds[j] (by simp [hj])
          rw [addr_add] at h3
          unfold World.cell? at h3
          rw [hgb] at h3
          simp at h3
          simp [hj, h3]
        · rename_i hj
          rw [List.getElem?_eq_none (by omega)]
      refine fin (w.setRow nb cur') olds nb cap0 cur' hro rfl rfl rfl (by simp [World.setRow]) ?_ ?_ ?_ hroom (.inl hown) ?_ ?_ ?_ hr
      · intro k hk' hne'
        simp [World.setRow, Array.getElem?_modify, Ne.symm hne']
      · simp [World.setRow, Array.getElem?_modify, hgb]
      · rw [← hcs, hcur']; simp; omega
      · intro o' u hu'
        have h7 := hh.gro.st id nb ob o' u hown hob hu'
        rw [hn, hsz] at h7
        have hst := (hh.base.stable _ _ _ hu').1
        unfold World.cell? at hst
        rw [hgb] at hst
        simp at hst
        rw [hcur']
        simp only [List.getElem?_toArray]
        rw [List.append_assoc, List.getElem?_append_left (by simp; omega), List.getElem?_take, if_pos h7, Array.getElem?_toList]
        exact hst
      · intro o' u hu'
        have h7 := hh.gro.st id nb ob o' u hown hob hu'
        rw [hn, hsz] at h7
        exact h7
      · rw [hcur', hlo, holds]
        exact List.take_left
    · -- anew
      have hr := run_append_grow (P := P) w t o.type e i z hu ht.info ht.zero b rows.length cap0 olds hro.len hmo a rows'.length cap vals hrows.len hmem (by omega) (by omega) (growslice_fits (by omega) hb)
      rw [← hxv, ← e1] at hr
      refine anew olds hro ?_
      simpa using hr

end

section
variable {B : Nat} {s : S}

/-- An object more that owns nothing of its own. -/
theorem HRel0.pushIdle {w : World} {E : Env} {H : Heap} (hh : HRel0 w E H) (ob : Ob) (h1 : ob.kind ≠ 1) (h2 : ob.kind ≠ 2) (hf : ob.fz ≤ ob.rows.length) (G : Nat → Nat → Option Value) (hG : ∀ id k, id < E.n → G id k = E.G id k) :
    HRel0 w { E.push 0 0 with G := G } (H ++ [ob]) ∧ Grow0 w E H w { E.push 0 0 with G := G } (H ++ [ob]) := by
  obtain ⟨E', hE'⟩ : ∃ E' : Env, E' = { E.push 0 0 with G := G } := ⟨_, rfl⟩
  rw [← hE']
  have hle : E.le E' := by
    have := E.push_le 0 0
    subst hE'
    exact ⟨this.n, this.β, this.κ, this.St, fun id k u hi hu => by show G id k = some u; rw [hG id k hi]; exact hu⟩
  have hold : ∀ id hops, id < H.length → E'.β id hops = E.β id hops := fun id hops hlt => hle.β id hops (by rw [hh.n]; exact hlt)
  have hn' : E'.n = E.n + 1 := by rw [hE']; rfl
  have hSt : E'.St = E.St := by rw [hE']; rfl
  have get : ∀ id hops x, getB (H ++ [ob]) id hops = some x → id < H.length ∧ getB H id hops = some x := by
    intro id hops x hx
    by_cases hlt : id < H.length
    · exact ⟨hlt, by rw [getB_append hlt] at hx; exact hx⟩
    · obtain ⟨ob1, ho, hk, hg⟩ := getB_ob hx
      rw [List.getElem?_append_right (by omega)] at ho
      have : id - H.length = 0 := by
        have := (List.getElem?_eq_some_iff.1 ho).1
        simp at this
        omega
      rw [this] at ho
      cases ho
      exact absurd hk (by rintro (h | h) <;> contradiction)
  have last : ∀ id ob1, (H ++ [ob])[id]? = some ob1 → (id < H.length ∧ H[id]? = some ob1) ∨ (id = H.length ∧ ob1 = ob) := by
    intro id ob1 ho
    by_cases hlt : id < H.length
    · rw [List.getElem?_append_left hlt] at ho; exact .inl ⟨hlt, ho⟩
    · rw [List.getElem?_append_right (by omega)] at ho
      have : id - H.length = 0 := by
        have := (List.getElem?_eq_some_iff.1 ho).1
        simp at this
        omega
      rw [this] at ho
      cases ho
      exact .inr ⟨by omega, rfl⟩
  refine ⟨⟨by rw [hn', hh.n]; simp, ?_, ?_, ?_, ?_, ?_, ?_⟩, ⟨hle, fun id k hi => by subst hE'; exact hG id k hi, rfl, rfl, rfl, Nat.le_refl _, fun _ _ _ => rfl, fun b o u hu => .inl (by rw [hSt] at hu; exact hu), ?_⟩⟩
  · intro id ob1 hops sz' rows' hob hx
    obtain ⟨hlt, hx'⟩ := get id hops _ hx
    rw [List.getElem?_append_left hlt] at hob
    exact (hh.blk id ob1 hops sz' rows' hob hx').step hle (by rw [hh.n]; exact hlt) rfl
  · intro id hops id' hops' x y hx hy he
    obtain ⟨h1, hx'⟩ := get id hops _ hx
    obtain ⟨h2, hy'⟩ := get id' hops' _ hy
    rw [hold id hops h1, hold id' hops' h2] at he
    exact hh.inj id hops id' hops' x y hx' hy' he
  · rw [hSt]; exact hh.stable
  · intro id hops x o u hx hu
    obtain ⟨h1, hx'⟩ := get id hops _ hx
    rw [hold id hops h1, hSt] at hu
    obtain ⟨e1, ob1, e2, e3⟩ := hh.sep id hops x o u hx' hu
    exact ⟨e1, ob1, by rw [List.getElem?_append_left h1]; exact e2, e3⟩
  · intro id ob1 hob hk
    rcases last id ob1 hob with ⟨hlt, ho⟩ | ⟨_, rfl⟩
    · rw [hold id [] hlt]; exact hh.ty id ob1 ho hk
    · exact absurd hk h2
  · intro id ob1 hob
    rcases last id ob1 hob with ⟨hlt, ho⟩ | ⟨_, rfl⟩
    · exact hh.fz id ob1 ho
    · exact hf
  · rintro b ⟨id, hops, x, hx, rfl⟩
    obtain ⟨h1, hx'⟩ := get id hops _ hx
    exact .inr ⟨id, hops, x, hx', by rw [hold id hops h1]⟩

/-- **A list by value that is full begins to grow.** -/
theorem Weak.grow (t : Nat) (ty : TypeId) (sz' : Nat) {sz : Nat} {rows : List (List C)} (ht : s.tmps[t]? = some (.lst 1 sz rows)) (hz : rows = [] ∨ sz' = sz) :
    Weak B s ⟨s.tmps.set t (.gl s.H.length sz' rows), s.H ++ [⟨4, ty, sz', rows, 0⟩]⟩ := fun m w E a hs => by
  obtain ⟨y, hy, hl⟩ := hs.tmps.get ht
  have hl0 : L E.shut (.lst 1 sz' rows) y := by
    have h1 := hl.toShut rfl
    rcases hz with rfl | rfl
    · exact WC.none 1 sz sz' E.shut y h1
    · exact h1
  have hfull : ∃ a, y = .slice a rows.length rows.length := by
    cases hl0 with
    | lst o sz rows b off cap us ho hc hsz hst hL => rcases ho with h | ⟨_, h⟩; cases h; subst h; exact ⟨_, rfl⟩
    | lnil o sz ho a => exact ⟨a, rfl⟩
  have hl1 : L E.shut (.lst 0 sz' rows) y := WC.share 1 sz' rows E.shut y hl0
  obtain ⟨av, rfl⟩ := hfull
  obtain ⟨G, hGd⟩ : ∃ G : Nat → Nat → Option Value, G = fun i k => if i = E.n then (if k = rows.length then some (.slice av rows.length rows.length) else none) else E.G i k := ⟨_, rfl⟩
  have hG : ∀ id k, id < E.n → G id k = E.G id k := fun id k hi => by rw [hGd]; simp [Nat.ne_of_lt hi]
  obtain ⟨hR, hg⟩ := hs.heap.base.pushIdle ⟨4, ty, sz', rows, 0⟩ (fun h => by cases h) (fun h => by cases h) (Nat.zero_le _) G hG
  obtain ⟨E', hE'⟩ : ∃ E' : Env, E' = { E.push 0 0 with G := G } := ⟨_, rfl⟩
  rw [← hE'] at hR hg
  have hn := hs.heap.n
  have hG' : ∀ i k, E'.G i k = if i = E.n then (if k = rows.length then some (.slice av rows.length rows.length) else none) else E.G i k := fun i k => by rw [hE', hGd]
  have last : ∀ id ob1, (s.H ++ [⟨4, ty, sz', rows, 0⟩])[id]? = some ob1 → (id < s.H.length ∧ s.H[id]? = some ob1) ∨ (id = s.H.length ∧ ob1 = ⟨4, ty, sz', rows, 0⟩) := by
    intro id ob1 ho
    by_cases hlt : id < s.H.length
    · rw [List.getElem?_append_left hlt] at ho; exact .inl ⟨hlt, ho⟩
    · rw [List.getElem?_append_right (by omega)] at ho
      have : id - s.H.length = 0 := by
        have := (List.getElem?_eq_some_iff.1 ho).1
        simp at this
        omega
      rw [this] at ho
      cases ho
      exact .inr ⟨by omega, rfl⟩
  have back : ∀ i b, GroOwn E' (s.H ++ [⟨4, ty, sz', rows, 0⟩]) i b → GroOwn E s.H i b := by
    rintro i b ⟨ob, cap, h1, h2, h3, h4⟩
    rcases last i ob h1 with ⟨hlt, ho⟩ | ⟨rfl, rfl⟩
    · refine ⟨ob, cap, ho, h2, ?_, h4⟩
      rw [hG', if_neg (by omega)] at h3
      exact h3
    · rw [hG', if_pos hn.symm, if_pos rfl] at h3
      simp only [Option.some.injEq, Value.slice.injEq] at h3
      exact absurd h3.2.2.symm h4
  have rback : ∀ i b, RecOwn (s.H ++ [⟨4, ty, sz', rows, 0⟩]) i b → RecOwn s.H i b := by
    rintro i b ⟨ob, r, t, h1, h2, h3, h4⟩
    rcases last i ob h1 with ⟨hlt, ho⟩ | ⟨rfl, rfl⟩
    · exact ⟨ob, r, t, ho, h2, h3, h4⟩
    · exact absurd h3.2 (by simp)
  have hGro : Gro w E' (s.H ++ [⟨4, ty, sz', rows, 0⟩]) := by
    refine ⟨?_, ?_, ?_, fun i j b h1 h2 => hs.heap.gro.inj i j b (back i b h1) (back j b h2), ?_, ?_, ?_, fun i j b h1 h2 => hs.heap.gro.rinj i j b (rback i b h1) (rback j b h2)⟩
    · intro i ob h1 h2
      rcases last i ob h1 with ⟨hlt, ho⟩ | ⟨rfl, rfl⟩
      · rw [hG', if_neg (by omega)]
        exact hs.heap.gro.val i ob ho h2
      · exact ⟨av, rows.length, by rw [hG', if_pos hn.symm, if_pos rfl], .inl rfl⟩
    · intro i b ob h1 h2
      have h1' := back i b h1
      have hlt : i < s.H.length := by obtain ⟨ob2, _, e, _⟩ := h1'; exact (List.getElem?_eq_some_iff.1 e).1
      rw [List.getElem?_append_left hlt] at h2
      rw [hG', if_neg (by omega)]
      exact hs.heap.gro.blk i b ob h1' h2
    · intro i b h1 h2
      rcases hg.own b h2 with h3 | h3
      · have h1' := back i b h1
        obtain ⟨ob2, c2, e1, e2⟩ := h1'
        obtain ⟨_, _, _, e3, _⟩ := hs.heap.gro.blk i b ob2 ⟨ob2, c2, e1, e2⟩ e1
        have := (Array.getElem?_eq_some_iff.1 e3).1
        omega
      · exact hs.heap.gro.sep i b (back i b h1) h3
    · intro i b ob o u h1 h2 h3
      have h1' := back i b h1
      have hlt : i < s.H.length := by obtain ⟨ob2, _, e, _⟩ := h1'; exact (List.getElem?_eq_some_iff.1 e).1
      rw [List.getElem?_append_left hlt] at h2
      exact hs.heap.gro.st i b ob o u h1' h2 (by rw [hE'] at h3; exact h3)
    · intro i ob k u h1 h2 h3
      rcases last i ob h1 with ⟨hlt, ho⟩ | ⟨rfl, rfl⟩
      · rw [hG', if_neg (by omega)] at h3
        exact hs.heap.gro.top i ob k u ho h2 h3
      · rw [hG', if_pos hn.symm] at h3
        split at h3
        · rename_i e; rw [e]; exact Nat.le_refl _
        · cases h3
    · intro i ob r t h1 h2 h3
      rcases last i ob h1 with ⟨hlt, ho⟩ | ⟨rfl, rfl⟩
      · obtain ⟨p1, p2⟩ := hs.heap.gro.lop i ob r t ho h2 h3
        exact ⟨p1, p2.mono hg.le⟩
      · exact absurd h3.2 (by simp)
  have hGrow : Grow w E s.H w E' (s.H ++ [⟨4, ty, sz', rows, 0⟩]) :=
    ⟨hg.le, rfl, rfl, rfl, Nat.le_refl _, fun _ _ _ => rfl, fun b o u hu => (hg.newSt b o u hu).imp_right fun h => h.imp_right .inl, fun b hb => by
      rcases hb with hb | ⟨i, hb | hb⟩
      · exact (hg.own b hb).imp_right .inl
      · exact .inr (.inr ⟨i, .inl (back i b hb)⟩)
      · exact .inr (.inr ⟨i, .inr (rback i b hb)⟩)⟩
  refine ⟨E', ⟨⟨hR, hGro⟩, ?_, hs.defers, by have := hs.base; simp; omega⟩, hGrow.toB (by rw [hn]; exact hs.base)⟩
  have hnl : L E' (.gl s.H.length sz' rows) (.slice av rows.length rows.length) := by
    refine .gl _ _ _ _ (by rw [hE']; show _ < E.n + 1; omega) (by rw [hG', if_pos hn.symm, if_pos rfl]) (hl1.mono hg.le.shut)
  have := (hs.tmps.mono hg.le).set hnl t
  rw [show a.tmps.toList.set t (.slice av rows.length rows.length) = a.tmps.toList from by
    apply List.ext_getElem?
    intro j
    rw [List.getElem?_set]
    split
    · rename_i e
      subst e
      rw [hy, if_pos (List.getElem?_eq_some_iff.1 hy).1]
    · rfl] at this
  exact this

/-- A cell that speaks of the first so many objects alone. -/
def lowOf (n : Nat) : Nat → C → C
  | 0, _ => .junk
  | k + 1, c => match c with
    | .gl _ sz rows => .lst 0 sz rows
    | .agg cs => .agg (cs.map (lowOf n k))
    | .tup cs => .tup (cs.map (lowOf n k))
    | .fn f first caps => .fn f (first.map (lowOf n k)) (caps.map (lowOf n k))
    | .ifc t c => .ifc t (lowOf n k c)
    | .rc r => .rc r
    | .ref id hops sz i j => if Nat.blt id n then .ref id hops sz i j else .junk
    | .sl id hops sz lo len full => if Nat.blt id n then .sl id hops sz lo len full else .junk
    | .mp id => if Nat.blt id n then .mp id else .junk
    | .v x => .v x
    | .lst o sz rows => .lst o sz rows
    | .sref cells => .sref cells
    | .un => .un
    | .junk => .junk

theorem LL.of_map {E E' : Env} {f : C → C} {cs : List C} {ys : List Value} (h : LL E cs ys) (hf : ∀ c y, L E c y → L E' (f c) y) : LL E' (cs.map f) ys :=
  ⟨by simpa using h.1, fun i c y e1 e2 => by
    rw [List.getElem?_map] at e1
    cases hx : cs[i]? with
    | none => rw [hx] at e1; cases e1
    | some c0 => rw [hx] at e1; cases e1; exact hf c0 y (h.2 i c0 y hx e2)⟩

theorem L.low {E : Env} (n : Nat) : ∀ (k : Nat) {c : C} {y : Value}, L E c y → L (E.cut n) (lowOf n k c) y := by
  intro k
  induction k with
  | zero => intro c y h; exact .junk y
  | succ k ih =>
    intro c y h
    have hs : E.shut.le (E.cut n) := ⟨Nat.zero_le _, fun id hops hi => absurd hi (Nat.not_lt_zero _), fun id hops hi => absurd hi (Nat.not_lt_zero _), fun b o u hu => hu, fun id _ _ hi => absurd hi (Nat.not_lt_zero _)⟩
    cases h with
    | gl id sz rows y hn hg h => exact h.mono hs
    | v x hx => exact .v _ hx
    | lst o sz rows b off cap us ho hc hsz hst hL => exact (L.lst (E := E) o sz rows b off cap us ho hc hsz hst hL).toShut rfl |>.mono hs
    | lnil o sz ho a => exact .lnil o sz ho a
    | sref cells b off us hst hL => exact (L.sref (E := E) cells b off us hst hL).toShut rfl |>.mono hs
    | ref id hops sz i j hn =>
      unfold lowOf
      dsimp only
      split
      · rename_i h; exact .ref (E := E.cut n) id hops sz i j (by simpa [Nat.blt_eq, Env.cut] using h)
      · exact .junk _
    | sl id hops sz lo len full cap hn hlen hf hf' =>
      unfold lowOf
      dsimp only
      split
      · rename_i h; exact .sl (E := E.cut n) id hops sz lo len full cap (by simpa [Nat.blt_eq, Env.cut] using h) hlen hf hf'
      · exact .junk _
    | mp id hn =>
      unfold lowOf
      dsimp only
      split
      · rename_i h; exact .mp (E := E.cut n) id (by simpa [Nat.blt_eq, Env.cut] using h)
      · exact .junk _
    | agg cs ys h1 h2 h3 =>
      have := LL.of_map (f := lowOf n k) (E' := E.cut n) (cs := cs) (ys := ys.toList) ⟨by simpa using h1, fun i c y e1 e2 => h2 i c y e1 (by simpa using e2)⟩ (fun c y hl => ih hl)
      exact .agg _ ys (by simpa using this.1) (fun i c y e1 e2 => this.2 i c y e1 (by simpa using e2)) h3
    | tup cs ys h1 h2 =>
      have := LL.of_map (f := lowOf n k) (E' := E.cut n) (cs := cs) (ys := ys.toList) ⟨by simpa using h1, fun i c y e1 e2 => h2 i c y e1 (by simpa using e2)⟩ (fun c y hl => ih hl)
      exact .tup _ ys (by simpa using this.1) (fun i c y e1 e2 => this.2 i c y e1 (by simpa using e2))
    | fn f first caps ys zs h1 h2 h3 h4 =>
      have t1 := LL.of_map (f := lowOf n k) (E' := E.cut n) (cs := first) (ys := ys.toList) ⟨by simpa using h1, fun i c y e1 e2 => h3 i c y e1 (by simpa using e2)⟩ (fun c y hl => ih hl)
      have t2 := LL.of_map (f := lowOf n k) (E' := E.cut n) (cs := caps) (ys := zs.toList) ⟨by simpa using h2, fun i c y e1 e2 => h4 i c y e1 (by simpa using e2)⟩ (fun c y hl => ih hl)
      exact .fn f _ _ ys zs (by simpa using t1.1) (by simpa using t2.1) (fun i c y e1 e2 => t1.2 i c y e1 (by simpa using e2)) (fun i c y e1 e2 => t2.2 i c y e1 (by simpa using e2))
    | un => exact .un
    | junk y => exact .junk y
    | ifc t c y h => exact .ifc t _ y (ih h)

/-- **All that speaks of later objects is let go.** -/
theorem Weak.low (n : Nat) (t : List C) (H : Heap) (hB : Nat.ble B n = true) (hn : Nat.ble n H.length = true) (hr : rowsLow n (H.take n) = true) : Weak B ⟨t, H⟩ ⟨t.map (lowOf n 9), H.take n⟩ := fun m w E a hs =>
  ⟨E.cut n, ⟨hs.heap.drop n (Nat.le_of_ble_eq_true hn) hr, hs.tmps.of_map (fun c y hl => hl.low n 9), hs.defers, by have h1 := Nat.le_of_ble_eq_true hB; have h2 := Nat.le_of_ble_eq_true hn; simp; omega⟩,
    ⟨⟨fun _ _ _ => rfl, fun _ _ _ => rfl, fun _ _ _ h => h, fun _ _ _ _ h => h⟩, rfl, rfl, rfl, Nat.le_refl _, fun _ _ _ => rfl, fun b o u hu => .inl hu, fun b h => .inr h.take⟩⟩

/-- A growing row is a list by value. -/
theorem WC.gl (id sz : Nat) (rows : List (List C)) : WC (.gl id sz rows) (.lst 0 sz rows) := fun E y h => asL_L h

end

section
variable {P : Program} {o : Oper} {ρ : Operand → C} {H : Heap}

theorem HRel.growStart {w : World} {E : Env} (hh : HRel w E H) {sz sz' : Nat} {rows : List (List C)} {y : Value} (hl : L E (.lst 1 sz rows) y) (ty : TypeId) (hz : rows = [] ∨ sz' = sz) :
    ∃ E1, HRel w E1 (H ++ [⟨4, ty, sz', rows, 0⟩]) ∧ L E1 (.gl H.length sz' rows) y ∧ Grow w E H w E1 (H ++ [⟨4, ty, sz', rows, 0⟩]) := by
  obtain ⟨E1, hs, g⟩ := Weak.grow (B := H.length) (s := ⟨[.lst 1 sz rows], H⟩) 0 ty sz' rfl hz 0 w E ⟨#[y], []⟩ ⟨hh, LL.one hl, Nat.zero_le _, Nat.le_refl _⟩
  have hn := hs.heap.n
  refine ⟨E1, hs.heap, hs.tmps.cons_inv.1, ⟨⟨by rw [hn, hh.n]; simp, fun id hops hi => g.le.β id hops (by rw [← hh.n]; exact hi), fun id hops hi => g.le.κ id hops (by rw [← hh.n]; exact hi), g.le.St, fun id k u hi => g.le.G id k u (by rw [← hh.n]; exact hi)⟩,
    g.os, g.tape, g.output, g.size, g.frame, g.newSt, g.own⟩⟩

theorem set_self {α : Type} {l : List α} {i : Nat} {x : α} (h : l[i]? = some x) : l.set i x = l := by
  apply List.ext_getElem?
  intro j
  rw [List.getElem?_set]
  split
  · rename_i e
    subst e
    rw [if_pos (List.getElem?_eq_some_iff.1 h).1, h]
  · rfl

/-- An append to a growing row, of whatever length. -/
theorem OpV.appendGl (cl : Call) (ho : o.op = .call cl) (x y : Operand) {e : TypeId} {i : TypeInfo} {z : Value} (ht : AppT P cl x y e i z) {id : Nat} {rows : List (List C)} (hx : ρ x = .gl id i.size rows) {ob : Ob} (hob : H[id]? = some ob)
    (hkd : ob = ⟨4, e, i.size, rows, 0⟩) {sz' : Nat} {rows' : List (List C)} (hy : rowsC H (Ab.asL (ρ y)) = some (sz', rows')) (hsz : rows' = [] ∨ sz' = i.size) (hm : rows.length + rows'.length ≤ maxLen) (hb : (rows.length + rows'.length) * i.bytes ≤ 140737488355328) :
    OpV P o ρ H (.gl id i.size (rows ++ rows')) (H.set id ⟨4, e, i.size, rows ++ rows', 0⟩) := by
  subst hkd
  by_cases hne : rows' = []
  · subst hne
    rw [List.append_nil, set_self hob]
    refine .same fun w E σ hh hl K hk => ?_
    have h0 := asL_L (hl x (by simp [ho, Op.operands, Call.operands, ht.callee, ht.args]))
    have h1 := asL_L (hl y (by simp [ho, Op.operands, Call.operands, ht.callee, ht.args]))
    have hx' : rowsC H (Ab.asL (ρ x)) = some (i.size, rows) := by rw [hx]; simp [Ab.asL, rowsC]
    obtain ⟨t, hu, hexec⟩ := exec_append ho ht σ w
    have hyv : ∃ a cap, σ y = .slice a 0 cap := by
      rcases rowsC_mem hh h1 hy with ⟨_, e1⟩ | ⟨a, cap, vals, e1, _⟩
      · exact ⟨none, 0, e1⟩
      · exact ⟨some a, cap, e1⟩
    obtain ⟨a, cap, hyv⟩ := hyv
    have hr : (Builtin.append_ #[t, t] o.type #[σ x, σ y]).run P w = .ok (σ x) w := by
      rcases rowsC_mem hh h0 hx' with ⟨_, e1⟩ | ⟨a', cap', vals, e1, hcap, _⟩
      · cases a <;> simp [Builtin.append_, run_underlying hu, sizeOf, typeInfo, ht.info, Builtin.lenOf, hyv, e1, Builtin.firstCells, loadCells, loadCellsFrom]
      · cases a <;> simp [Builtin.append_, run_underlying hu, sizeOf, typeInfo, ht.info, Builtin.lenOf, hyv, e1, hcap, Builtin.firstCells, loadCells, loadCellsFrom, storeCells]
    rw [hexec _ _ hr]
    refine hk _ w E hh ?_ (Grow0.refl w E H)
    have := hl x (by simp [ho, Op.operands, Call.operands, ht.callee, ht.args])
    rw [hx] at this
    exact this
  · obtain rfl := hsz.resolve_left hne
    exact .appendGl1 cl ho x y ht hx hob rfl rfl rfl rfl hy hne hm hb

/-- An append to a list that is full begins a growing row. -/
theorem OpV.appendFullGl (cl : Call) (ho : o.op = .call cl) (x y : Operand) {e : TypeId} {i : TypeInfo} {z : Value} (ht : AppT P cl x y e i z) {sz : Nat} {rows : List (List C)} (hx : ρ x = .lst 1 sz rows) (hsx : rows = [] ∨ sz = i.size)
    {sz' : Nat} {rows' : List (List C)} (hy : rowsC H (Ab.asL (ρ y)) = some (sz', rows')) (hsz : rows' = [] ∨ sz' = i.size) (hm : rows.length + rows'.length ≤ maxLen) (hb : (rows.length + rows'.length) * i.bytes ≤ 140737488355328) :
    OpV P o ρ H (.gl H.length i.size (rows ++ rows')) (H ++ [⟨4, e, i.size, rows ++ rows', 0⟩]) := by
  classical
  intro w E σ hh hl K hk
  have h0 := hl x (by simp [ho, Op.operands, Call.operands, ht.callee, ht.args])
  rw [hx] at h0
  obtain ⟨E1, hh1, hl1, g1⟩ := hh.growStart h0 e (sz' := i.size) (hsx.imp id Eq.symm)
  obtain ⟨ρ', hρx, hρ⟩ : ∃ ρ' : Operand → C, ρ' x = .gl H.length i.size rows ∧ ∀ z, z ≠ x → ρ' z = ρ z := ⟨fun z => if z = x then .gl H.length i.size rows else ρ z, by simp, fun z hz => by simp [hz]⟩
  have hob : (H ++ [⟨4, e, i.size, rows, 0⟩] : Heap)[H.length]? = some ⟨4, e, i.size, rows, 0⟩ := by simp
  have hy' : ∃ sz2, rowsC (H ++ [⟨4, e, i.size, rows, 0⟩]) (Ab.asL (ρ' y)) = some (sz2, rows') ∧ (rows' = [] ∨ sz2 = i.size) := by
    by_cases hyx : y = x
    · subst hyx
      rw [hx] at hy
      simp [Ab.asL, rowsC] at hy
      obtain ⟨_, rfl⟩ := hy
      exact ⟨i.size, by rw [hρx]; simp [Ab.asL, rowsC], .inr rfl⟩
    · rw [hρ y hyx]
      refine ⟨sz', ?_, hsz⟩
      cases hc : Ab.asL (ρ y) with
      | sl id hops sz2 lo len full =>
        rw [hc] at hy
        simp only [rowsC] at hy ⊢
        cases hid : H[id]? with
        | none => rw [hid] at hy; simp at hy
        | some ob =>
          have hlt := (List.getElem?_eq_some_iff.1 hid).1
          rw [hid] at hy
          rw [List.getElem?_append_left hlt, hid, getB_append hlt]
          exact hy
      | lst o2 s2 r2 => rw [hc] at hy; exact hy
      | _ => rw [hc] at hy; cases hy
  obtain ⟨sz2, hy1, hy2⟩ := hy'
  have := OpV.appendGl (ρ := ρ') cl ho x y ht hρx hob rfl hy1 hy2 hm hb w E1 σ hh1 (fun z hz => by
    by_cases hzx : z = x
    · subst hzx; rw [hρx]; exact hl1
    · rw [hρ z hzx]; exact (hl z hz).mono g1.le) K
  have e1 : (H ++ [⟨4, e, i.size, rows, 0⟩] : Heap).set H.length ⟨4, e, i.size, rows ++ rows', 0⟩ = H ++ [⟨4, e, i.size, rows ++ rows', 0⟩] := by simp
  rw [e1] at this
  exact this fun v w' E' a b c => hk v w' E' a b (g1.trans c)

end
end Go.Ab
