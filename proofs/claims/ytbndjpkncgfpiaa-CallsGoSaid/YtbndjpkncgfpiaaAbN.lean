/- Loops by what holds at their head, told as functions of the round. -/
import Derived.Test.YtbndjpkncgfpiaaAbK
import Derived.Test.YtbndjpkncgfpiaaAbH
namespace Go.Ab
set_option linter.unusedVariables false

/-- Temporaries that say no more: slot by slot the same, or forgotten. -/
def cov (t2 : List C) : List C → Prop :=
  List.rec (motive := fun _ => List C → Prop) (fun t1 => match t1 with | [] => True | _ :: _ => False)
    (fun c' _ ih t1 => match t1 with
      | [] => False
      | c :: cs => match c' with
        | .junk => ih cs
        | c' => c = c' ∧ ih cs) t2

theorem cov_WCs : ∀ {t2 t1 : List C}, cov t2 t1 → WCs t1 t2
  | [], [], _ => .nil
  | [], _ :: _, h => h.elim
  | _ :: _, [], h => h.elim
  | c' :: t2, c :: t1, h => by
    cases c' with
    | junk => exact .cons (.junk c) (cov_WCs (t2 := t2) (t1 := t1) h)
    | _ =>
      obtain ⟨h1, h2⟩ := h
      exact .cons (h1 ▸ .refl c) (cov_WCs (t2 := t2) (t1 := t1) h2)

section
variable {P : Program} {B : Nat}

theorem Weak.cov {t1 t2 : List C} {H : Heap} (h : Ab.cov t2 t1) : Weak B ⟨t1, H⟩ ⟨t2, H⟩ := Weak.tmps (cov_WCs h)

/-- Slots forgotten, and later objects. -/
theorem Weak.covD (n : Nat) {t1 t2 : List C} {H1 H2 : Heap} (h : Ab.cov t2 t1) (hB : Nat.ble B n = true) (hn : Nat.ble n H1.length = true) (ht : t2.all (lowC n 9) = true) (hr : rowsLow n (H1.take n) = true) (hH : H1.take n = H2) : Weak B ⟨t1, H1⟩ ⟨t2, H2⟩ := by
  subst hH
  exact (Weak.cov h).trans (Weak.drop (s := ⟨t2, H1⟩) n hB hn ht hr)

/-- A whole array object becomes a list by value. -/
theorem Weak.freezeA {s : S} (t : Nat) {id sz len ty : Nat} {full : Bool} {rows : List (List C)} (ht : s.tmps[t]? = some (.sl id [] sz 0 len full)) (hob : s.H[id]? = some ⟨2, ty, sz, rows, 0⟩) (hlen : len = rows.length)
    (hno : ∀ r ∈ rows, ∀ c ∈ r, noOwn c = true) :
    Weak B s ⟨s.tmps.set t (.lst (if full then 1 else 0) sz rows), s.H.set id ⟨2, ty, sz, rows, rows.length⟩⟩ := by
  have := Weak.freeze (B := B) t ht hob rfl rfl (by simp [hlen]) hno
  rw [modify_set _ hob] at this
  simpa [hlen] using this

theorem HRel.freezeStart {w : World} {E : Env} {H : Heap} (hh : HRel w E H) {id sz len ty : Nat} {full : Bool} {rows : List (List C)} {y : Value} (hl : L E (.sl id [] sz 0 len full) y) (hob : H[id]? = some ⟨2, ty, sz, rows, 0⟩) (hlen : len = rows.length)
    (hno : ∀ r ∈ rows, ∀ c ∈ r, noOwn c = true) :
    ∃ E1, HRel w E1 (H.set id ⟨2, ty, sz, rows, rows.length⟩) ∧ L E1 (.lst (if full then 1 else 0) sz rows) y ∧ Grow w E H w E1 (H.set id ⟨2, ty, sz, rows, rows.length⟩) := by
  obtain ⟨E1, hs, g⟩ := Weak.freezeA (B := H.length) (s := ⟨[.sl id [] sz 0 len full], H⟩) 0 rfl hob hlen hno 0 w E ⟨#[y], []⟩ ⟨hh, LL.one hl, Nat.zero_le _, Nat.le_refl _⟩
  have hn := hs.heap.n
  refine ⟨E1, hs.heap, hs.tmps.cons_inv.1, ⟨⟨by rw [hn, hh.n]; simp, fun id hops hi => g.le.β id hops (by rw [← hh.n]; exact hi), fun id hops hi => g.le.κ id hops (by rw [← hh.n]; exact hi), g.le.St, fun id k u hi => g.le.G id k u (by rw [← hh.n]; exact hi)⟩,
    g.os, g.tape, g.output, g.size, g.frame, g.newSt, g.own⟩⟩

/-- **A whole array object that a variable's cell speaks of becomes a list by value.** -/
theorem Weak.freezeH {s : S} (vid k : Nat) {id sz len ty vty vsz fz : Nat} {full : Bool} {r : List C} {rows : List (List C)} (hv : s.H[vid]? = some ⟨1, vty, vsz, [r], fz⟩) (hk : r[k]? = some (.sl id [] sz 0 len full)) (hob : s.H[id]? = some ⟨2, ty, sz, rows, 0⟩) (hlen : len = rows.length)
    (hno : ∀ r ∈ rows, ∀ c ∈ r, noOwn c = true) (hr : r.all noOwn = true) (hr' : (r.set k (.lst (if full then 1 else 0) sz rows)).all noOwn = true) :
    Weak B s ⟨s.tmps, (s.H.set id ⟨2, ty, sz, rows, rows.length⟩).set vid ⟨1, vty, vsz, [r.set k (.lst (if full then 1 else 0) sz rows)], fz⟩⟩ := fun m w E a hs => by
  have hgb : getB s.H vid [] = some (vsz, [r]) := by unfold getB; rw [hv]; simp [getT_nil]
  obtain ⟨cur, e, h3, h4, h5⟩ := (hs.heap.base.blk _ _ _ _ _ hv hgb).blk
  obtain ⟨u, hu, ho⟩ := h5 0 k _ (cellAt_one.2 ⟨rfl, hk⟩)
  rw [CellOK.loose rfl] at ho
  have hl : L E (.sl id [] sz 0 len full) u := by simpa [Env.at] using ho.1
  obtain ⟨E1, hh1, hl1, g1⟩ := hs.heap.freezeStart hl hob hlen hno
  have hne : vid ≠ id := by rintro rfl; rw [hv] at hob; cases hob
  have hob1 : (s.H.set id ⟨2, ty, sz, rows, rows.length⟩)[vid]? = some ⟨1, vty, vsz, [r], fz⟩ := by rw [List.getElem?_set, if_neg (Ne.symm hne)]; exact hv
  have hβ : E1.β vid [] = E.β vid [] := g1.le.β vid [] (by rw [hs.heap.n]; exact (List.getElem?_eq_some_iff.1 hv).1)
  have hcu : w.cell? ⟨E1.β vid [], k, none⟩ = some u := by
    unfold World.cell?
    rw [hβ, h3]
    simpa using hu
  obtain ⟨hR, g2⟩ := hh1.recell hob1 (r' := r.set k (.lst (if full then 1 else 0) sz rows)) (by simp) hr hr' fun j c c' v e1 e2 hl' hv => by
    rw [List.getElem?_set] at e2
    split at e2
    · rename_i e
      subst e
      rw [hcu] at hv
      cases hv
      split at e2
      · cases e2; exact hl1
      · cases e2
    · rw [e1] at e2
      cases e2
      exact hl'
  have g := g1.trans g2
  exact ⟨E1, ⟨hR, hs.tmps.mono g.le, hs.defers.grow hs.heap g, by have := hs.base; simp; omega⟩, g.toB (by rw [hs.heap.n]; exact hs.base)⟩

/-- What is handed back speaks of no object, or is made so. -/
theorem SoundR.closeL {f : FuncId} {args : List C} {r : C} (h : SoundR P f [] args fun c _ => lowOf 0 9 c = r) : SoundAt P f [] args r [] := fun w E vs hh hl => by
  refine (h w E vs hh hl).mono ?_
  rintro e w' ⟨c, H', v, E', rfl, rfl, h1, h2, g⟩
  have h3 := h1.drop 0 (Nat.zero_le _) (by simp [rowsLow])
  rw [List.take_zero] at h3
  have hn : E.n = 0 := hh.n
  exact ⟨v, E'.cut 0, rfl, h3, h2.low 0 9, ⟨⟨by rw [hn]; exact Nat.zero_le _, fun id hops hi => by rw [hn] at hi; omega, fun id hops hi => by rw [hn] at hi; omega, g.le.St, fun id k u hi => by rw [hn] at hi; omega⟩, g.os, g.tape, g.output, g.size, g.frame, g.newSt,
    fun b h => absurd h Owned.none⟩⟩

theorem SoundAt.of_wpA1 {f : FuncId} {fn : Func} {c : Code} {args : List C} {r : C} (hf : P.funcs[f]? = some fn) (hb : fn.body = some c)
    (h : wpA P 0 c (entry fn args) [] fun ex t1 H1 => (ex = .ret ∨ ex = .normal) ∧ ∃ s2, Weak 0 ⟨t1, H1⟩ s2 ∧ (resC P fn s2).map (lowOf 0 9) = some r) : SoundAt P f [] args r [] := by
  refine SoundR.closeL (SoundR.of_run (H := []) hf hb ((wpA_spec h).mono fun ex s1 ⟨hex, s2, hw, h2⟩ => ?_))
  cases h3 : resC P fn s2 with
  | none => rw [h3] at h2; cases h2
  | some r0 =>
    rw [h3] at h2
    cases h2
    exact ⟨hex, s2, r0, hw, h3, rfl⟩

/-- **A loop of so many rounds, unless it is left.** -/
theorem Loops.seq {c : Code} {t : List C} {H : Heap} {K : Exit → List C → Heap → Prop} (N : Nat) (T : Nat → List C) (Hp : Nat → Heap) (R : Nat → Prop) (h0 : Weak B ⟨t, H⟩ ⟨T 0, Hp 0⟩) (r0 : R 0)
    (step : ∀ k, k < N → R k → wpA P B c (T k) (Hp k) fun e t1 H1 => (e = .normal ∧ Weak B ⟨t1, H1⟩ ⟨T (k + 1), Hp (k + 1)⟩ ∧ R (k + 1)) ∨ (e ≠ .normal ∧ K e t1 H1))
    (done : R N → wpA P B c (T N) (Hp N) fun e t1 H1 => e ≠ .normal ∧ K e t1 H1) :
    LoopK P B c t H K := by
  have key : ∀ n k, k + n = N → R k → RunL P B c (n + 1) ⟨T k, Hp k⟩ fun ex s => K ex s.tmps s.H := by
    intro n
    induction n with
    | zero =>
      intro k hk hr
      obtain rfl : k = N := by omega
      refine .step ((wpA_spec (done hr)).mono fun ex s1 ⟨hne, hK⟩ => ?_)
      cases ex with
      | normal => exact absurd rfl hne
      | _ => exact hK
    | succ n ih =>
      intro k hk hr
      refine .step ((wpA_spec (step k (by omega) hr)).post fun ex s1 h1 => ?_)
      rcases h1 with ⟨rfl, hw, hr'⟩ | ⟨hne, hK⟩
      · exact ⟨_, hw, (ih (k + 1) (by omega) hr' : RunL P B c (n + 1) _ _)⟩
      · refine ⟨s1, .refl s1, ?_⟩
        cases ex with
        | normal => exact absurd rfl hne
        | _ => exact hK
  exact ⟨.pre h0 ⟨N + 1, key N 0 (by omega) r0⟩⟩

end
end Go.Ab
