/- Objects named anew; an array that will not change any more becomes a shared list. -/
import Derived.Test.YtbndjpkncgfpiaaAbH
namespace Go.Ab
set_option linter.unusedVariables false

theorem set_same {α : Type} {l : List α} {t : Nat} {y : α} (h : l[t]? = some y) : l.set t y = l := by
  apply List.ext_getElem?
  intro i
  rw [List.getElem?_set]
  split
  · rename_i e
    subst e
    obtain ⟨h1, h2⟩ := List.getElem?_eq_some_iff.1 h
    rw [if_pos h1, h]
  · rfl

/-! ### Freezing -/

section
variable {B : Nat} {s : S}

theorem HRel0.freeze {w : World} {E : Env} {H : Heap} (h : HRel0 w E H) {id : Nat} {ob : Ob} (hob : H[id]? = some ob) (hk : ob.kind = 2) (hno : ∀ i k c, cellAt ob.rows i k = some c → noOwn c = true) :
    ∃ E', E.le E' ∧ HRel0 w E' (H.modify id fun ob => ⟨ob.kind, ob.ty, ob.sz, ob.rows, ob.rows.length⟩) ∧ (∀ b o u, E'.St b o = some u → E.St b o = some u ∨ b = E.β id []) ∧ E'.β = E.β ∧ E'.G = E.G ∧
      ∀ i k c, cellAt ob.rows i k = some c → ∃ u, E'.St (E.β id []) (i * ob.sz + k) = some u ∧ L E'.shut c u := by
  have hgb : getB H id [] = some (ob.sz, ob.rows) := by unfold getB; rw [hob]; simp [hk, getT_nil]
  have hB := h.blk id ob [] _ _ hob hgb
  obtain ⟨cur, e, hg, hcs, hcell⟩ := hB.blk
  have key : ∀ o, o < ob.rows.length * ob.sz → ∃ u, cur[o]? = some u ∧ u.oneCell' = true ∧ w.cell? ⟨E.β id [], o, none⟩ = some u := by
    intro o ho
    obtain ⟨h1, h2, h3⟩ := index_split ho
    obtain ⟨c, hc⟩ := cellAt_some hB.row h1 h2
    obtain ⟨u, hu, hok⟩ := hcell _ _ c hc
    rw [CellOK.loose (hno _ _ c hc)] at hok
    rw [h3] at hu
    exact ⟨u, hu, hok.2, by unfold World.cell?; rw [hg]; simpa using hu⟩
  obtain ⟨E', hE'⟩ : ∃ E' : Env, E' = { E with St := fun b o => if b = E.β id [] ∧ o < ob.rows.length * ob.sz then cur[o]? else E.St b o } := ⟨_, rfl⟩
  have hle : E.le E' := by
    subst hE'
    refine ⟨Nat.le_refl _, fun _ _ _ => rfl, fun _ _ _ => rfl, fun b o u hu => ?_, fun _ _ _ _ hu => hu⟩
    show (if b = E.β id [] ∧ o < ob.rows.length * ob.sz then cur[o]? else E.St b o) = some u
    split
    · rename_i hc
      obtain ⟨rfl, ho⟩ := hc
      obtain ⟨u', h1, _, h2⟩ := key o ho
      have := (h.stable _ _ _ hu).1
      rw [h2] at this
      rw [h1, ← this]
    · exact hu
  have hSt : ∀ b o u, E'.St b o = some u → E.St b o = some u ∨ (b = E.β id [] ∧ o < ob.rows.length * ob.sz ∧ cur[o]? = some u) := by
    subst hE'
    intro b o u hu
    change (if b = E.β id [] ∧ o < ob.rows.length * ob.sz then cur[o]? else E.St b o) = some u at hu
    split at hu
    · rename_i hc; exact .inr ⟨hc.1, hc.2, hu⟩
    · exact .inl hu
  have hβ : E'.β = E.β := by subst hE'; rfl
  have hn : E'.n = E.n := by subst hE'; rfl
  have get : ∀ id' hops x, getB (H.modify id fun ob => ⟨ob.kind, ob.ty, ob.sz, ob.rows, ob.rows.length⟩) id' hops = some x → getB H id' hops = some x := by
    intro id' hops x hx
    obtain ⟨ob', ho', hk', hg'⟩ := getB_ob hx
    rw [List.getElem?_modify] at ho'
    cases hx' : H[id']? with
    | none => rw [hx'] at ho'; cases ho'
    | some ob0 =>
      rw [hx'] at ho'
      simp only [Option.map_eq_map, Option.map_some, Option.some.injEq] at ho'
      unfold getB
      rw [hx']
      split at ho'
      · subst ho'; simp only [hk', if_true]; exact hg'
      · subst ho'; simp only [hk', if_true]; exact hg'
  have obs : ∀ (id' : Nat) (ob' : Ob), (H.modify id fun ob => ⟨ob.kind, ob.ty, ob.sz, ob.rows, ob.rows.length⟩)[id']? = some ob' → ∃ ob0, H[id']? = some ob0 ∧ ob'.kind = ob0.kind ∧ ob'.ty = ob0.ty ∧ ob'.sz = ob0.sz ∧ ob'.rows = ob0.rows ∧ ob0.fz ≤ ob'.fz ∧ ob'.fz ≤ ob'.rows.length ∧ (id' = id → ob'.fz = ob0.rows.length) := by
    intro id' ob' ho'
    rw [List.getElem?_modify] at ho'
    cases hx' : H[id']? with
    | none => rw [hx'] at ho'; cases ho'
    | some ob0 =>
      rw [hx'] at ho'
      simp only [Option.map_eq_map, Option.map_some, Option.some.injEq] at ho'
      have := h.fz id' ob0 hx'
      split at ho'
      · subst ho'; exact ⟨ob0, rfl, rfl, rfl, rfl, rfl, this, Nat.le_refl _, fun _ => rfl⟩
      · rename_i hne; subst ho'; exact ⟨ob0, rfl, rfl, rfl, rfl, rfl, Nat.le_refl _, this, fun e => absurd e.symm hne⟩
  refine ⟨E', hle, ⟨by rw [hn, h.n]; simp, ?_, ?_, ?_, ?_, ?_, ?_⟩, fun b o u hu => (hSt b o u hu).imp_right (·.1), hβ, by subst hE'; rfl, ?_⟩
  · intro id' ob' hops sz rows hob' hx
    obtain ⟨ob0, h1, h2, _⟩ := obs id' ob' hob'
    have hx' := get _ _ _ hx
    rw [h2]
    exact (h.blk id' ob0 hops sz rows h1 hx').step hle (by rw [h.n]; exact getB_lt hx') rfl
  · intro id1 p1 id2 p2 x y hx hy he
    rw [hβ] at he
    exact h.inj id1 p1 id2 p2 x y (get _ _ _ hx) (get _ _ _ hy) he
  · intro b o u hu
    rcases hSt b o u hu with h1 | ⟨rfl, h2, h3⟩
    · exact h.stable b o u h1
    · obtain ⟨u', h4, h5, h6⟩ := key o h2
      rw [h3] at h4
      cases h4
      exact ⟨h6, h5⟩
  · intro id' hops x o u hx hu
    have hx' := get _ _ _ hx
    rw [hβ] at hu
    obtain ⟨ob1, ho1, _, _⟩ := getB_ob hx
    obtain ⟨ob0, h1, h2, h3, h4, h5, h6, h7, h8⟩ := obs id' ob1 ho1
    rcases hSt _ o u hu with h9 | ⟨h9, h10, _⟩
    · obtain ⟨e1, ob2, e2, e3⟩ := h.sep id' hops x o u hx' h9
      rw [h1] at e2
      cases e2
      exact ⟨e1, ob1, ho1, by rw [h4]; exact Nat.lt_of_lt_of_le e3 (Nat.mul_le_mul_right _ h6)⟩
    · obtain ⟨rfl, rfl⟩ := h.inj id' hops id [] x _ hx' hgb h9
      rw [hob] at h1
      cases h1
      exact ⟨rfl, ob1, ho1, by rw [h8 rfl, h4]; exact h10⟩
  · intro id' ob' hob' hk'
    obtain ⟨ob0, h1, h2, h3, _⟩ := obs id' ob' hob'
    obtain ⟨cur', hc⟩ := h.ty id' ob0 h1 (by rw [← h2]; exact hk')
    exact ⟨cur', by rw [hβ, h3]; exact hc⟩
  · intro id' ob' hob'
    obtain ⟨ob0, h1, h2, h3, h4, h5, h6, h7, h8⟩ := obs id' ob' hob'
    exact h7
  · intro i k c hc
    obtain ⟨u, hu, hok⟩ := hcell i k c hc
    rw [CellOK.loose (hno _ _ c hc)] at hok
    obtain ⟨h1, h2⟩ := cellAt_lt hB.row hc
    have hlt : i * ob.sz + k < ob.rows.length * ob.sz := by
      have : (i + 1) * ob.sz ≤ ob.rows.length * ob.sz := Nat.mul_le_mul_right _ h1
      rw [Nat.add_mul] at this
      omega
    refine ⟨u, ?_, ?_⟩
    · subst hE'
      show (if E.β id [] = E.β id [] ∧ i * ob.sz + k < ob.rows.length * ob.sz then cur[i * ob.sz + k]? else _) = some u
      rw [if_pos ⟨rfl, hlt⟩]
      exact hu
    · have h3 := hok.1
      simp only [Env.at, hk, if_true] at h3
      exact h3.mono hle.shut

/-- **A slice of an array object becomes a list by value**; the array's rows never change any more. -/
theorem Weak.freeze (t : Nat) {id sz lo len : Nat} {full : Bool} {ob : Ob} (ht : s.tmps[t]? = some (.sl id [] sz lo len full)) (hob : s.H[id]? = some ob) (hk : ob.kind = 2) (hsz : ob.sz = sz) (hlen : lo + len ≤ ob.rows.length)
    (hno : ∀ r ∈ ob.rows, ∀ c ∈ r, noOwn c = true) :
    Weak B s ⟨s.tmps.set t (.lst (if full then 1 else 0) sz ((ob.rows.drop lo).take len)), s.H.modify id fun ob => ⟨ob.kind, ob.ty, ob.sz, ob.rows, ob.rows.length⟩⟩ := fun m w E a hs => by
  subst hsz
  have hno' : ∀ i k c, cellAt ob.rows i k = some c → noOwn c = true := fun i k c hc => by
    unfold cellAt at hc
    cases hx : ob.rows[i]? with
    | none => rw [hx] at hc; cases hc
    | some r => rw [hx] at hc; exact hno r (List.mem_of_getElem? hx) c (List.mem_of_getElem? hc)
  obtain ⟨E', hle, hR, hnew, hβ, hKG0, hcells⟩ := hs.heap.base.freeze hob hk hno'
  have hgb : getB s.H id [] = some (ob.sz, ob.rows) := by unfold getB; rw [hob]; simp [hk, getT_nil]
  have hrow := (hs.heap.base.blk id ob [] _ _ hob hgb).row
  obtain ⟨y, hy, hl⟩ := hs.tmps.get ht
  have hnl : L E' (.lst (if full then 1 else 0) ob.sz ((ob.rows.drop lo).take len)) y := by
    generalize hc : C.sl id [] ob.sz lo len full = c at hl
    cases hl with
    | sl id' hops' sz' lo' len' full' cap hn hlen' hf hf' =>
      cases hc
      have hrl : ((ob.rows.drop lo).take len).length = len := by simp; omega
      have hsub : ∀ i k, cellAt ((ob.rows.drop lo).take len) i k = if i < len then cellAt ob.rows (lo + i) k else none := by
        intro i k
        unfold cellAt
        rw [List.getElem?_take]
        split
        · rw [List.getElem?_drop]
        · rfl
      have ex : ∀ i r k c, ((ob.rows.drop lo).take len)[i]? = some r → r[k]? = some c → ∃ u, E'.St (E.β id []) (lo * ob.sz + i * ob.sz + k) = some u ∧ L E'.shut c u := by
        intro i r k c hr hc
        have hcc : cellAt ((ob.rows.drop lo).take len) i k = some c := by unfold cellAt; rw [hr]; exact hc
        rw [hsub] at hcc
        split at hcc
        · obtain ⟨u, h1, h2⟩ := hcells _ _ c hcc
          exact ⟨u, by rw [← Nat.add_mul]; exact h1, h2⟩
        · cases hcc
      have := L.lst (E := E') (if full then 1 else 0) ob.sz ((ob.rows.drop lo).take len) (E.β id []) (lo * ob.sz) cap (fun i k => (E'.St (E.β id []) (lo * ob.sz + i * ob.sz + k)).getD undef) ?_ ?_ ?_ ?_ ?_
      · rw [hrl] at this; exact this
      · cases full with
        | false => exact .inl rfl
        | true => exact .inr ⟨rfl, by rw [hrl]; exact hf rfl⟩
      · rw [hrl]; exact hlen'
      · exact fun r hr => hrow r (List.mem_of_mem_drop (List.mem_of_mem_take hr))
      · intro i r k c hr hc
        obtain ⟨u, h1, h2⟩ := ex i r k c hr hc
        rw [h1]; rfl
      · intro i r k c hr hc
        obtain ⟨u, h1, h2⟩ := ex i r k c hr hc
        rw [h1]; exact h2
    | _ => cases hc
  have hG : Grow0 w E s.H w E' (s.H.modify id fun ob => ⟨ob.kind, ob.ty, ob.sz, ob.rows, ob.rows.length⟩) := by
    have hKG : ∀ (id k : Nat), id < E.n → E'.G id k = E.G id k := fun _ _ _ => by rw [hKG0]
    refine ⟨hle, hKG, rfl, rfl, rfl, Nat.le_refl _, fun _ _ _ => rfl, fun b o u hu => ?_, ?_⟩
    · rcases hnew b o u hu with h1 | h1
      · exact .inl h1
      · exact .inr (.inr ⟨id, [], _, hgb, h1.symm⟩)
    · rintro b ⟨id', p, x, hx, rfl⟩
      right
      refine ⟨id', p, x, ?_, by rw [hβ]⟩
      obtain ⟨ob', ho', hk', hg'⟩ := getB_ob hx
      rw [List.getElem?_modify] at ho'
      cases hx' : s.H[id']? with
      | none => rw [hx'] at ho'; cases ho'
      | some ob0 =>
        rw [hx'] at ho'
        simp only [Option.map_eq_map, Option.map_some, Option.some.injEq] at ho'
        unfold getB
        rw [hx']
        split at ho'
        · subst ho'; simp only [hk', if_true]; exact hg'
        · subst ho'; simp only [hk', if_true]; exact hg'
  have hk4 : Keep4 s.H (s.H.modify id fun ob => ⟨ob.kind, ob.ty, ob.sz, ob.rows, ob.rows.length⟩) := Keep4.modify _ _ _ fun ob' h' => by
    rw [hob] at h'
    cases h'
    exact ⟨by rw [hk]; decide, by show ob.kind ≠ 4; rw [hk]; decide⟩
  refine ⟨E', ⟨⟨hR, Gro.step hs.heap hG hk4⟩, ?_, hs.defers, by simpa using hs.base⟩, (hG.up hs.heap hk4).toB (by rw [hs.heap.n]; exact hs.base)⟩
  have := (hs.tmps.mono hle).set hnl t
  rw [set_same hy] at this
  exact this

end
end Go.Ab
