/- A range over a function, as a function's own code. -/
import Derived.Test.YtbndjpkncgfpiaaAbP
import Derived.Test.YtbndjpkncgfpiaaAbS
import Derived.Test.YtbndjpkncgfpiaaAbV
namespace Go.Ab
set_option linter.unusedVariables false

theorem alloc_old (w : World) (o : Obj) {k : Nat} (h : k < w.heap.size) : (w.alloc o).heap[k]? = w.heap[k]? := by
  show (w.heap.push o)[k]? = _
  rw [Array.getElem?_push, if_neg (by omega)]

/-- **A range over a function, in a function's own code**: the iterator's contract, for whatever record; then the pending jump. -/
theorem wpIn_range {P : Program} {g : Operand} {ps : Array Tmp} {assign body : Code} {B m : Nat} {H : Heap} {t : List C} {f : FuncId} {caps : List C} {w : World} {E : Env} {a : Act} {Q : Exit → Act → World → Prop}
    (hs : SRel B m w E ⟨t, H⟩ a) (hg : ev t g = .fn f [] caps) (hcb : callable P f = true)
    (hit : ∀ (l : Nat) (r : Loop), r.state = .ready → r.pending = none → r.params = ps → r.assign = assign → r.body = body →
      ∃ (rr : C) (Hf : Heap) (rf : Loop), SoundAt P f (H ++ [obR l r t]) (.v (.func (.yield l) #[] #[]) :: caps) rr Hf ∧ Hf[H.length]? = some (obR l rf t) ∧ rf.state ≠ .busy ∧ rf.tmps = r.tmps ∧ B ≤ Hf.length ∧
      ∀ w' E' a', SRel B m w' E' ⟨t, Hf.set H.length (obR l { rf with state := .exhausted } t)⟩ a' → GrowB B w E H w' E' (Hf.set H.length (obR l { rf with state := .exhausted } t)) →
        match rf.pending with | none => Q .normal a' w' | some c => c.wpIn (fw none) 0 P Q a' w') :
    (Code.rangeFunc g ps assign body).wpIn (fw none) 0 P Q a w := by
  have hm := hs.defers.le
  refine wpIn_rangeFunc ?_
  intro fn _
  obtain ⟨r, hr⟩ : ∃ r : Loop, r = { state := .ready, pending := none, fn, tmps := a.tmps, params := ps, assign, body, defers := w.heap.size } := ⟨_, rfl⟩
  obtain ⟨W1, hW1⟩ : ∃ W1, W1 = (w.alloc (.deferred (some []))).alloc (.loop r) := ⟨_, rfl⟩
  have hL1 : W1.heap[w.heap.size + 1]? = some (.loop r) := by
    rw [hW1]; have := World.alloc_heap_new (w.alloc (.deferred (some []))) (.loop r); rwa [World.size_alloc] at this
  have hK1 : W1.heap[w.heap.size]? = some (.deferred (some [])) := by
    rw [hW1]; exact (alloc_old _ _ (by simp)).trans (World.alloc_heap_new w _)
  have hsame : ∀ k, k < w.heap.size → W1.heap[k]? = w.heap[k]? := fun k hk => by
    rw [hW1]; exact (alloc_old _ _ (by simp; omega)).trans (alloc_old _ _ hk)
  have hsz : W1.heap.size = w.heap.size + 2 := by rw [hW1]; simp
  have hv := ev_L hs.tmps g
  rw [hg] at hv
  obtain ⟨zs, hσ, hzs⟩ : ∃ zs, a.eval g = .func (.func f) #[] zs ∧ LL E caps zs.toList := by
    generalize a.eval g = u at *
    cases hv with
    | fn f first caps ys zs h1 h2 h3 h4 =>
      have : ys = #[] := by simpa using h1.symm
      subst this
      exact ⟨zs, rfl, by simpa using h2, fun i c y e1 e2 => h4 i c y e1 (by simpa using e2)⟩
  obtain ⟨E1, hR1, G1⟩ := hs.heap.newLoop (w := W1) (l := w.heap.size + 1) (r := r) (t := t) hsame (by rw [hW1]; rfl) (by rw [hW1]; rfl) (by rw [hW1]; rfl) (by omega) hL1 (by omega) (by rw [hr]; exact hs.tmps)
  obtain ⟨rr, Hf, rf, hS, hHf, hbusy, htm, hB, hQ⟩ := hit (w.heap.size + 1) r (by rw [hr]) (by rw [hr]) (by rw [hr]) (by rw [hr]) (by rw [hr])
  have eg : ∀ (args : Array Value), (callFunc f args).run P W1 = .ok (.enter f args) W1 := by
    intro args
    unfold callable at hcb
    split at hcb
    rotate_left
    · cases hcb
    rename_i fn hfn
    simp only [Bool.and_eq_true, Bool.not_eq_true'] at hcb
    have hname : fn.name ≠ "runtime.NumGoroutine" := by simpa using hcb.1
    have hbody : fn.body ≠ none := by intro hb; simp [hb] at hcb
    simp [callFunc, hfn, hname, hbody]
  refine ⟨w.heap.size + 1, [mkD w.heap.size], W1, { target := .fn (.func f) zs, args := #[.func (.yield (w.heap.size + 1)) #[] #[]] }, W1, f, #[.func (.yield (w.heap.size + 1)) #[] #[]] ++ zs, W1, ?_, ?_, fun _ _ => trivial, ?_, fun h => (by cases h), ?_⟩
  · rw [hW1, hr]; exact run_enterLoop_outer _ _ _ _ _
  · simp only [resolve, hσ]
    simp [go_sem]
  · simp [invoke, go_sem, eg]
  · refine (callsIn_wide (n := 0)).2 ((hS W1 E1 _ hR1 ?_).mono ?_)
    · have := (LL.one (.v _ rfl : L E1 (.v (.func (.yield (w.heap.size + 1)) #[] #[])) (.func (.yield (w.heap.size + 1)) #[] #[]))).append (hzs.mono G1.le)
      simpa using this
    · rintro e w3 ⟨v, E3, rfl, hR3, _, G3⟩
      obtain ⟨⟨hL3, _⟩, ht3⟩ := hR3.gro.lop H.length _ (.loop rf) t hHf rfl ⟨rfl, rfl⟩
      obtain ⟨hR4, G4⟩ := hR3.setLoop (r' := { rf with state := .exhausted }) hHf rfl
      have hend := run_endLoop (P := P) hL3 hbusy
      have G := (G1.trans G3).trans G4
      have hn : B ≤ E.n := by rw [hs.heap.n]; exact hs.base
      have hD : (w3.putObj (w.heap.size + 1) (.loop { rf with state := .exhausted })).heap[w.heap.size]? = some (.deferred (some [])) := by
        rw [World.putObj_heap_other (by omega)]
        exact (G3.frame _ (by omega) (hR1.free hK1)).trans hK1
      have h4 : SRel B m (w3.putObj (w.heap.size + 1) (.loop { rf with state := .exhausted })) E3 ⟨t, Hf.set H.length (obR (w.heap.size + 1) { rf with state := .exhausted } t)⟩ { a with defers := [mkD w.heap.size] ++ a.defers } := by
        refine ⟨hR4, hs.tmps.mono G.le, ⟨⟨w.heap.size, rfl, hm, hD, ?_⟩, hs.defers.grow hs.heap G⟩, by simpa using hB⟩
        intro hmem
        have key : ∀ {ds : List Deferred}, Marks m w ds → mkD w.heap.size ∉ ds := by
          intro ds
          induction ds with
          | nil => intro _ h; cases h
          | cons d ds ih =>
            rintro ⟨⟨D, h1, _, h3, _⟩, ht⟩ h
            rcases List.mem_cons.1 h with h5 | h5
            · rw [h1] at h5
              have : w.heap.size = D := by simpa [mkD] using h5
              have := (Array.getElem?_eq_some_iff.1 h3).1
              omega
            · exact ih ht h5
        exact key hs.defers hmem
      have := hQ _ _ _ h4 (G.toB hn)
      refine ⟨rf.pending, _, hend, ?_⟩
      exact this

/-- The jump that is pending behind a loop is this exit. -/
def pend : Option Code → Exit → Prop
  | none, .normal => True
  | some .ret, .ret => True
  | some (.exit i), .exit j => i = j
  | _, _ => False

/-- **A range over a function takes a state to another one.** -/
theorem RunR.rangeFunc {P : Program} {g : Operand} {ps : Array Tmp} {assign body : Code} {B : Nat} {H : Heap} {t : List C} {f : FuncId} {caps : List C} {R : Exit → S → Prop} (hg : ev t g = .fn f [] caps) (hcb : callable P f = true)
    (hit : ∀ (l : Nat) (r : Loop), r.state = .ready → r.pending = none → r.params = ps → r.assign = assign → r.body = body →
      ∃ (rr : C) (Hf : Heap) (rf : Loop) (ex : Exit) (s' : S), SoundAt P f (H ++ [obR l r t]) (.v (.func (.yield l) #[] #[]) :: caps) rr Hf ∧ Hf[H.length]? = some (obR l rf t) ∧ rf.state ≠ .busy ∧ rf.tmps = r.tmps ∧ B ≤ Hf.length ∧ pend rf.pending ex ∧
        Weak B ⟨t, Hf.set H.length (obR l { rf with state := .exhausted } t)⟩ s' ∧ R ex s') : RunR P B (.rangeFunc g ps assign body) ⟨t, H⟩ R := fun q m w E a Q hr hs hq => by
  obtain rfl := hr rfl
  refine wpIn_range hs hg hcb fun l r h1 h2 h3 h4 h5 => ?_
  obtain ⟨rr, Hf, rf, ex, s', a1, a2, a3, a4, a5, a6, a7, a8⟩ := hit l r h1 h2 h3 h4 h5
  refine ⟨rr, Hf, rf, a1, a2, a3, a4, a5, fun w' E' a' hs' g' => ?_⟩
  obtain ⟨E2, hs2, g2⟩ := a7 m w' E' a' hs'
  have hq' := hq ex s' w' E2 a' a8 hs2 (g'.trans g2)
  generalize rf.pending = pe at a6
  match pe, ex, a6 with
  | none, .normal, _ => exact hq'
  | some .ret, .ret, _ => exact wpIn_ret hq'
  | some (.exit i), .exit j, h => cases h; exact wpIn_exit hq'

end Go.Ab
