/- Rounds of a loop over a function: the loop's record turns; yield called. -/
import Derived.Test.YtbndjpkncgfpiaaAbR
import Derived.RangeFuncRecord
namespace Go.Ab
set_option linter.unusedVariables false

/-- The object that a block without cells stands as. -/
abbrev obF (l : Nat) (o : Obj) (t : List C) : Ob := ⟨4, l, 1, [.rc o :: t], 1⟩
/-- The object that a loop's record stands as. -/
abbrev obR (l : Nat) (r : Loop) (t : List C) : Ob := obF l (.loop r) t
/-- The object that a map stands as. -/
abbrev obM (b : Nat) (es : Array MapEntry) (k : Nat) : Ob := obF b (.map es k) []

/-- **Such a block turns.** -/
theorem HRel.setObj {w : World} {E : Env} {H : Heap} (hh : HRel w E H) {id l : Nat} {r r' : Obj} {t : List C} (hob : H[id]? = some (obF l r t)) (hf' : foreign r' = true) (hr : recT r' = recT r) :
    HRel (w.putObj l r') E (H.set id (obF l r' t)) ∧ Grow w E H (w.putObj l r') E (H.set id (obF l r' t)) := by
  obtain ⟨⟨hL, hf⟩, ht⟩ := hh.gro.lop id _ r t hob rfl ⟨rfl, rfl⟩
  have hlt := (Array.getElem?_eq_some_iff.1 hL).1
  have hcells : ∀ (k : Nat) c ty z, w.heap[k]? = some (Obj.cells c ty z) → (w.putObj l r').heap[k]? = w.heap[k]? := fun k c ty z h =>
    World.putObj_heap_other (by rintro rfl; rw [hL] at h; cases h; cases hf)
  have hgetS : ∀ i, i ≠ id → (H.set id (obF l r' t))[i]? = H[i]? := fun i hi => by rw [List.getElem?_set, if_neg (Ne.symm hi)]
  have hgetI : (H.set id (obF l r' t))[id]? = some (obF l r' t) := by rw [List.getElem?_set, if_pos rfl, if_pos (List.getElem?_eq_some_iff.1 hob).1]
  have hGo : ∀ i b, GroOwn E (H.set id (obF l r' t)) i b → GroOwn E H i b := by
    rintro i b ⟨ob2, cap, h1, h2, h3, h4⟩
    by_cases hi : i = id
    · subst hi
      rw [hgetI] at h1
      cases h1
      exact ⟨_, cap, hob, rfl, h3, h4⟩
    · rw [hgetS i hi] at h1
      exact ⟨ob2, cap, h1, h2, h3, h4⟩
  have hRo : ∀ i b, RecOwn (H.set id (obF l r' t)) i b → RecOwn H i b := by
    rintro i b ⟨ob2, r2, t2, h1, h2, h3, h4⟩
    by_cases hi : i = id
    · subst hi
      rw [hgetI] at h1
      cases h1
      exact ⟨_, r, t, hob, rfl, ⟨rfl, rfl⟩, h4⟩
    · rw [hgetS i hi] at h1
      exact ⟨ob2, r2, t2, h1, h2, h3, h4⟩
  have ho0 : ∀ b, Owned0 E (H.set id (obF l r' t)) b ↔ Owned0 E H b := fun b => Owned0.set4 hob rfl rfl rfl
  have hR : HRel0 (w.putObj l r') E (H.set id (obF l r' t)) := by
    refine HRel0.set4 (hh.base.other (Env.le.refl E) rfl rfl ?_ ?_ fun b o u _ hu => hu) hob rfl rfl (by simp)
    · intro b hb
      obtain ⟨cur, e, h1⟩ := hh.base.cellsAt hb
      exact hcells b _ _ _ h1
    · intro b o u hu
      obtain ⟨h1, h2⟩ := hh.base.stable b o u hu
      refine ⟨?_, h2⟩
      unfold World.cell? at h1 ⊢
      split at h1
      · rename_i c ty z hc
        rw [hcells _ _ _ _ hc, hc]
        exact h1
      · cases h1
  refine ⟨⟨hR, ?_, ?_, ?_, ?_, ?_, ?_, ?_, fun i j b h1 h2 => hh.gro.rinj i j b (hRo i b h1) (hRo j b h2)⟩, ⟨Env.le.refl E, rfl, rfl, rfl, by simp, ?_, fun b o u hu => .inl hu, ?_⟩⟩
  · intro i ob2 h1 h2
    by_cases hi : i = id
    · subst hi
      rw [hgetI] at h1
      cases h1
      have := hh.gro.val i _ hob rfl
      exact this
    · rw [hgetS i hi] at h1
      exact hh.gro.val i ob2 h1 h2
  · intro i b ob2 h1 h2
    have h1' := hGo i b h1
    by_cases hi : i = id
    · subst hi
      rw [hgetI] at h2
      cases h2
      obtain ⟨cur, cap, e1, e2, e3⟩ := hh.gro.blk i b _ h1' hob
      exact ⟨cur, cap, e1, (hcells _ _ _ _ e2).trans e2, e3⟩
    · rw [hgetS i hi] at h2
      obtain ⟨cur, cap, e1, e2, e3⟩ := hh.gro.blk i b ob2 h1' h2
      exact ⟨cur, cap, e1, (hcells _ _ _ _ e2).trans e2, e3⟩
  · intro i b h1 h2
    exact hh.gro.sep i b (hGo i b h1) ((ho0 b).1 h2)
  · intro i j b h1 h2
    exact hh.gro.inj i j b (hGo i b h1) (hGo j b h2)
  · intro i b ob2 o u h1 h2 h3
    have h1' := hGo i b h1
    by_cases hi : i = id
    · subst hi
      rw [hgetI] at h2
      cases h2
      have := hh.gro.st i b _ o u h1' hob h3
      exact this
    · rw [hgetS i hi] at h2
      exact hh.gro.st i b ob2 o u h1' h2 h3
  · intro i ob2 k u h1 h2 h3
    by_cases hi : i = id
    · subst hi
      rw [hgetI] at h1
      cases h1
      have := hh.gro.top i _ k u hob rfl h3
      exact this
    · rw [hgetS i hi] at h1
      exact hh.gro.top i ob2 k u h1 h2 h3
  · intro i ob2 r2 t2 h1 h2 h3
    by_cases hi : i = id
    · subst hi
      rw [hgetI] at h1
      cases h1
      obtain ⟨h3, _⟩ := h3
      simp only [List.cons.injEq, C.rc.injEq, and_true] at h3
      obtain ⟨rfl, rfl⟩ := h3
      exact ⟨⟨World.putObj_heap_same hlt, hf'⟩, by rw [hr]; exact ht⟩
    · rw [hgetS i hi] at h1
      obtain ⟨p1, p2⟩ := hh.gro.lop i ob2 r2 t2 h1 h2 h3
      refine ⟨⟨(World.putObj_heap_other ?_).trans p1.1, p1.2⟩, p2⟩
      intro e
      exact hi (hh.gro.rinj i id l ⟨ob2, r2, t2, h1, h2, h3, e⟩ ⟨_, r, t, hob, rfl, ⟨rfl, rfl⟩, rfl⟩)
  · intro k _ hk
    refine World.putObj_heap_other ?_
    rintro rfl
    exact hk (.inr ⟨id, .inr ⟨_, r, t, hob, rfl, ⟨rfl, rfl⟩, rfl⟩⟩)
  · rintro b (hb | ⟨i, hb | hb⟩)
    · exact .inr (.inl ((ho0 b).1 hb))
    · exact .inr (.inr ⟨i, .inl (hGo i b hb)⟩)
    · exact .inr (.inr ⟨i, .inr (hRo i b hb)⟩)

/-- **The record turns.** -/
theorem HRel.setLoop {w : World} {E : Env} {H : Heap} (hh : HRel w E H) {id l : Nat} {r r' : Loop} {t : List C} (hob : H[id]? = some (obR l r t)) (hr : r'.tmps = r.tmps) :
    HRel (w.putObj l (.loop r')) E (H.set id (obR l r' t)) ∧ Grow w E H (w.putObj l (.loop r')) E (H.set id (obR l r' t)) := hh.setObj hob rfl (by simp only [recT, hr])

/-- **Such a block is laid** (w0: the world ahead of it). -/
theorem HRel.newObj {w0 w : World} {E : Env} {H : Heap} (h0 : HRel w0 E H) {l : Nat} {r : Obj} {t : List C} (hf : foreign r = true) (hk : ∀ k, k < w0.heap.size → w.heap[k]? = w0.heap[k]?) (hos : w.os = w0.os) (htp : w.tape = w0.tape) (hout : w.output = w0.output) (hsz : w0.heap.size ≤ w.heap.size)
    (hL : w.heap[l]? = some r) (hl : w0.heap.size ≤ l) (ht : LL E t (recT r)) : ∃ E1, HRel w E1 (H ++ [obF l r t]) ∧ Grow w0 E H w E1 (H ++ [obF l r t]) := by
  have hh : HRel w E H := h0.cells fun k o h _ => hk k (Array.getElem?_eq_some_iff.1 h).1
  have hn := hh.n
  obtain ⟨G, hGd⟩ : ∃ G : Nat → Nat → Option Value, G = fun i k => if i = E.n then (if k = 1 then some (.slice none 1 1) else none) else E.G i k := ⟨_, rfl⟩
  have hG : ∀ id k, id < E.n → G id k = E.G id k := fun id k hi => by rw [hGd]; simp [Nat.ne_of_lt hi]
  obtain ⟨hR, hg⟩ := hh.base.pushIdle (obF l r t) (fun h => by cases h) (fun h => by cases h) (Nat.le_refl _) G hG
  obtain ⟨E', hE'⟩ : ∃ E' : Env, E' = { E.push 0 0 with G := G } := ⟨_, rfl⟩
  rw [← hE'] at hR hg
  have hG' : ∀ i k, E'.G i k = if i = E.n then (if k = 1 then some (.slice none 1 1) else none) else E.G i k := fun i k => by rw [hE', hGd]
  have hSt : E'.St = E.St := by rw [hE']; rfl
  have last : ∀ id ob1, (H ++ [obF l r t])[id]? = some ob1 → (id < H.length ∧ H[id]? = some ob1) ∨ (id = H.length ∧ ob1 = obF l r t) := by
    intro id ob1 ho
    by_cases hlt : id < H.length
    · rw [List.getElem?_append_left hlt] at ho; exact .inl ⟨hlt, ho⟩
    · rw [List.getElem?_append_right (by omega)] at ho
      have : id - H.length = 0 := by
        have := (List.getElem?_eq_some_iff.1 ho).1
        simp at this
        omega
      rw [this] at ho
      cases ho
      exact .inr ⟨by omega, rfl⟩
  have back : ∀ i b, GroOwn E' (H ++ [obF l r t]) i b → GroOwn E H i b := by
    rintro i b ⟨ob, cap, h1, h2, h3, h4⟩
    rcases last i ob h1 with ⟨hlt, ho⟩ | ⟨rfl, rfl⟩
    · refine ⟨ob, cap, ho, h2, ?_, h4⟩
      rw [hG', if_neg (by omega)] at h3
      exact h3
    · rw [hG', if_pos hn.symm, if_pos (show (obF l r t).rows.length = 1 from rfl)] at h3
      simp at h3
  have rback : ∀ i b, RecOwn (H ++ [obF l r t]) i b → (RecOwn H i b ∧ b < w0.heap.size) ∨ (i = H.length ∧ b = l) := by
    rintro i b ⟨ob, r2, t2, h1, h2, h3, h4⟩
    rcases last i ob h1 with ⟨hlt, ho⟩ | ⟨rfl, rfl⟩
    · have := (h0.gro.lop i ob r2 t2 ho h2 h3).1.1
      rw [h4] at this
      exact .inl ⟨⟨ob, r2, t2, ho, h2, h3, h4⟩, (Array.getElem?_eq_some_iff.1 this).1⟩
    · exact .inr ⟨rfl, h4.symm⟩
  have hGro : Gro w E' (H ++ [obF l r t]) := by
    refine ⟨?_, ?_, ?_, fun i j b h1 h2 => hh.gro.inj i j b (back i b h1) (back j b h2), ?_, ?_, ?_, ?_⟩
    · intro i ob h1 h2
      rcases last i ob h1 with ⟨hlt, ho⟩ | ⟨rfl, rfl⟩
      · rw [hG', if_neg (by omega)]
        exact hh.gro.val i ob ho h2
      · exact ⟨none, 1, by show E'.G _ 1 = _; rw [hG', if_pos hn.symm, if_pos rfl]; rfl, .inl rfl⟩
    · intro i b ob h1 h2
      have h1' := back i b h1
      have hlt : i < H.length := by obtain ⟨ob2, _, e, _⟩ := h1'; exact (List.getElem?_eq_some_iff.1 e).1
      rw [List.getElem?_append_left hlt] at h2
      rw [hG', if_neg (by omega)]
      exact hh.gro.blk i b ob h1' h2
    · intro i b h1 h2
      rcases hg.own b h2 with h3 | h3
      · have h1' := back i b h1
        obtain ⟨ob2, c2, e1, e2⟩ := h1'
        obtain ⟨_, _, _, e3, _⟩ := hh.gro.blk i b ob2 ⟨ob2, c2, e1, e2⟩ e1
        have := (Array.getElem?_eq_some_iff.1 e3).1
        omega
      · exact hh.gro.sep i b (back i b h1) h3
    · intro i b ob o u h1 h2 h3
      have h1' := back i b h1
      have hlt : i < H.length := by obtain ⟨ob2, _, e, _⟩ := h1'; exact (List.getElem?_eq_some_iff.1 e).1
      rw [List.getElem?_append_left hlt] at h2
      exact hh.gro.st i b ob o u h1' h2 (by rw [hSt] at h3; exact h3)
    · intro i ob k u h1 h2 h3
      rcases last i ob h1 with ⟨hlt, ho⟩ | ⟨rfl, rfl⟩
      · rw [hG', if_neg (by omega)] at h3
        exact hh.gro.top i ob k u ho h2 h3
      · rw [hG', if_pos hn.symm] at h3
        split at h3
        · rename_i e; rw [e]; exact Nat.le_refl _
        · cases h3
    · intro i ob r2 t2 h1 h2 h3
      rcases last i ob h1 with ⟨hlt, ho⟩ | ⟨rfl, rfl⟩
      · obtain ⟨p1, p2⟩ := hh.gro.lop i ob r2 t2 ho h2 h3
        exact ⟨p1, p2.mono hg.le⟩
      · obtain ⟨h3, _⟩ := h3
        simp only [List.cons.injEq, C.rc.injEq, and_true] at h3
        obtain ⟨rfl, rfl⟩ := h3
        exact ⟨⟨hL, hf⟩, ht.mono hg.le⟩
    · intro i j b h1 h2
      rcases rback i b h1 with ⟨a1, a2⟩ | ⟨rfl, rfl⟩
      · rcases rback j b h2 with ⟨b1, b2⟩ | ⟨rfl, rfl⟩
        · exact hh.gro.rinj i j b a1 b1
        · omega
      · rcases rback j b h2 with ⟨b1, b2⟩ | ⟨rfl, _⟩
        · omega
        · rfl
  refine ⟨E', ⟨hR, hGro⟩, ⟨hg.le, hos, htp, hout, hsz, fun k h1 _ => hk k h1, fun b o u hu => .inl (by rw [hSt] at hu; exact hu), ?_⟩⟩
  rintro b (hb | ⟨i, hb | hb⟩)
  · rcases hg.own b hb with h3 | h3
    · exact .inl (Nat.le_trans hsz h3)
    · exact .inr (.inl h3)
  · exact .inr (.inr ⟨i, .inl (back i b hb)⟩)
  · rcases rback i b hb with ⟨a1, _⟩ | ⟨_, rfl⟩
    · exact .inr (.inr ⟨i, .inr a1⟩)
    · exact .inl hl
theorem HRel.newLoop {w0 w : World} {E : Env} {H : Heap} (h0 : HRel w0 E H) {l : Nat} {r : Loop} {t : List C} (hk : ∀ k, k < w0.heap.size → w.heap[k]? = w0.heap[k]?) (hos : w.os = w0.os) (htp : w.tape = w0.tape) (hout : w.output = w0.output) (hsz : w0.heap.size ≤ w.heap.size)
    (hL : w.heap[l]? = some (.loop r)) (hl : w0.heap.size ≤ l) (ht : LL E t r.tmps.toList) : ∃ E1, HRel w E1 (H ++ [obR l r t]) ∧ Grow w0 E H w E1 (H ++ [obR l r t]) := h0.newObj rfl hk hos htp hout hsz hL hl ht

/-- **Yield, of the loop whose record lies at l, called so over such a heap, hands back this, and leaves that heap.** -/
def YieldS (P : Program) (l : Nat) (H : Heap) (args : List C) (r : C) (H' : Heap) : Prop :=
  ∀ (w : World) (E : Env) (vs : Array Value), HRel w E H → LL E args vs.toList →
    ∃ fn tmps assign body, (Instr.yield l vs).run P w = .ok (.round l fn tmps assign body) w ∧
      RoundIn (fw none) 0 P l fn tmps assign body w fun e w' => ∃ v E', e = .returned v ∧ HRel w' E' H' ∧ L E' r v ∧ Grow w E H w' E' H'

/-- The temporaries that a round begins with. -/
def parC (t : List C) (ps : List Tmp) (args : List C) : List C := (ps.zip args).foldl (fun t x => t.set x.1 x.2) t

theorem parC_LL {E : Env} : ∀ (ps : List Tmp) (args : List C) (vs : List Value) (t : List C) (ys : Array Value), LL E t ys.toList → LL E args vs →
    LL E (parC t ps args) ((ps.zip vs).foldl (fun (tmps : Array Value) x => tmps.setIfInBounds x.1 x.2) ys).toList
  | [], args, vs, t, ys, h, _ => by simpa [parC] using h
  | p :: ps, [], [], t, ys, h, _ => by simpa [parC] using h
  | p :: ps, [], v :: vs, t, ys, h, hl => by have := hl.1; simp at this
  | p :: ps, c :: cs, [], t, ys, h, hl => by have := hl.1; simp at this
  | p :: ps, c :: cs, v :: vs, t, ys, h, hl => by
    obtain ⟨h1, h2⟩ := hl.cons_inv
    have h3 : LL E (t.set p c) (ys.setIfInBounds p v).toList := by simpa using h.set h1 p
    simpa [parC] using parC_LL ps cs vs (t.set p c) (ys.setIfInBounds p v) h3 h2

theorem GrowB.up {w w' : World} {E E' : Env} {H H' : Heap} (hh : HRel w E H) (hs : HRel w' E' H') (hb : H.length ≤ H'.length) (g : GrowB H.length w E H w' E' H') : Grow w E H w' E' H' :=
  ⟨⟨by rw [hh.n, hs.n]; exact hb, fun id hops hi => g.le.β id hops (by rw [← hh.n]; exact hi), fun id hops hi => g.le.κ id hops (by rw [← hh.n]; exact hi), g.le.St, fun id k u hi => g.le.G id k u (by rw [← hh.n]; exact hi)⟩,
    g.os, g.tape, g.output, g.size, g.frame, g.newSt, g.own⟩

abbrev busy (r : Loop) : Loop := { r with state := .busy }

abbrev left (r : Loop) (c : Code) : Loop := { r with state := .done, pending := some c }

/-- How a round ends: on to its end, true; left by a jump, false, the jump is pending. -/
abbrev roundE (id l : Nat) (r : Loop) (t : List C) (rv : Bool) (H' : Heap) (e : Exit) (H3 : Heap) : Prop :=
  H3[id]? = some (obR l (busy r) t) ∧ ((e = .normal ∧ rv = true ∧ H' = H3.set id (obR l r t)) ∨ (rv = false ∧ ((e = .ret ∧ H' = H3.set id (obR l (left r .ret) t)) ∨ ∃ i, e = .exit i ∧ H' = H3.set id (obR l (left r (.exit i)) t))))

/-- **A round, by its way.** -/
theorem YieldS.of_run {P : Program} {H1 H' : Heap} {id l : Nat} {r : Loop} {t : List C} {args : List C} {rv : Bool} (hob : H1[id]? = some (obR l r t)) (hst : r.state = .ready) (hpe : r.pending = none)
    (hn : args.length = r.params.size) (hna : ranged r.assign = false) (hnb : ranged r.body = false)
    (h : RunR P H1.length r.assign ⟨parC t r.params.toList args, H1⟩ fun e s1 => e = .normal ∧ s1.H[id]? = some (obR l r t) ∧ RunR P H1.length r.body ⟨s1.tmps, s1.H.set id (obR l (busy r) t)⟩ fun e s2 =>
      ∃ s3, Weak H1.length s2 s3 ∧ roundE id l r t rv H' e s3.H) : YieldS P l H1 args (.v (.bool rv)) H' := by
  intro w E vs hh hl
  obtain ⟨⟨hL, _⟩, ht⟩ := hh.gro.lop id _ (.loop r) t hob rfl ⟨rfl, rfl⟩
  have hsz : vs.size = r.params.size := by have := hl.1; simp at this; omega
  refine ⟨r.fn, _, r.assign, r.body, run_yield hL hsz, roundIn_of_wpIn trivial ?_⟩
  have h0 : SRel H1.length 0 w E ⟨parC t r.params.toList args, H1⟩ { tmps := (r.params.zip vs).foldl (fun tmps (x : Tmp × Value) => tmps.setIfInBounds x.1 x.2) r.tmps, defers := [] } := by
    refine ⟨hh, ?_, Nat.zero_le _, Nat.le_refl _⟩
    have := parC_LL r.params.toList args vs.toList t r.tmps ht hl
    rw [← Array.toList_zip, Array.foldl_toList] at this
    exact this
  refine h (some l) 0 w E _ _ (fun e => by rw [hna] at e; cases e) h0 fun e s1 w1 E1 a1 hR1 hs1 g1 => ?_
  obtain ⟨rfl, hob1, hb⟩ := hR1
  obtain ⟨⟨hL1, _⟩, _⟩ := hs1.heap.gro.lop id _ (.loop r) t hob1 rfl ⟨rfl, rfl⟩
  refine ⟨_, run_beginRound hL1 hst, ?_⟩
  obtain ⟨hR2, G2⟩ := hs1.heap.setLoop (r' := busy r) hob1 rfl
  refine hb (some l) 0 _ E1 a1 _ (fun e => by rw [hnb] at e; cases e) ⟨hR2, hs1.tmps, ?_, by simpa using hs1.base⟩ fun e s2 w3 E2 a3 hR3 hs2 g2 => ?_
  · exact hs1.defers.grow hs1.heap G2
  obtain ⟨s3, hw3, hob2, hend3⟩ := hR3
  obtain ⟨E3, hs3, g23⟩ := hw3 _ w3 E2 a3 hs2
  have g3 := g2.trans g23
  obtain ⟨⟨hL3, _⟩, _⟩ := hs3.heap.gro.lop id _ (.loop (busy r)) t hob2 rfl ⟨rfl, rfl⟩
  have hn1 : H1.length ≤ E1.n := by rw [hs1.heap.n]; exact hs1.base
  have hn3 : H1.length ≤ E3.n := by rw [hs3.heap.n]; exact hs3.base
  rcases hend3 with ⟨rfl, rfl, rfl⟩ | ⟨rfl, hleave⟩
  · obtain ⟨hR4, G4⟩ := hs3.heap.setLoop (r' := r) hob2 rfl
    have e : ({ busy r with state := .ready, pending := none } : Loop) = r := by
      obtain ⟨st, pe, _, _, _, _, _, _⟩ := r
      simp only at hst hpe
      subst hst hpe
      rfl
    have hend := run_endRound (P := P) none hL3
    refine ⟨.bool true, _, hend, ?_⟩
    have e2 : (w3.putObj l (.loop { busy r with state := if (none : Option Code).isNone then .ready else .done, pending := none })) = w3.putObj l (.loop r) := by
      rw [show ({ busy r with state := if (none : Option Code).isNone then .ready else .done, pending := none } : Loop) = r from e]
    rw [e2]
    exact ⟨.bool true, E3, rfl, hR4, .v _ rfl, GrowB.up hh hR4 (by simpa using hs3.base) (((g1.trans (G2.toB hn1)).trans g3).trans (G4.toB hn3))⟩
  · have key : ∀ c, H' = s3.H.set id (obR l (left r c) t) → ∃ v w4, (Instr.endRound l (some c)).run P w3 = .ok v w4 ∧ ∃ v' E', Ending.returned v = .returned v' ∧ HRel w4 E' H' ∧ L E' (.v (.bool false)) v' ∧ Grow w E H1 w4 E' H' := fun c hc => by
      subst hc
      obtain ⟨hR4, G4⟩ := hs3.heap.setLoop (r' := left r c) hob2 rfl
      have hend := run_endRound (P := P) (some c) hL3
      refine ⟨.bool false, _, hend, .bool false, E3, rfl, hR4, .v _ rfl, ?_⟩
      exact GrowB.up hh hR4 (by simpa using hs3.base) (((g1.trans (G2.toB hn1)).trans g3).trans (G4.toB hn3))
    rcases hleave with ⟨rfl, hc⟩ | ⟨i, rfl, hc⟩
    · exact key _ hc
    · exact key _ hc

section
variable {P : Program} {o : Oper} {ρ : Operand → C} {H : Heap}

/-- **Yield called.** -/
theorem OpV.yield (cl : Call) (ho : o.op = .call cl) (x : Operand) (hcl : cl.callee = .value x) {l : Nat} (hf : ρ x = .v (.func (.yield l) #[] #[])) {r : C} {H' : Heap}
    (hs : YieldS P l H (cl.args.toList.map ρ) r H') : OpV P o ρ H r H' := fun w E σ hh hl K hk => by
  have h0 := hl x (by simp [ho, Op.operands, Call.operands, hcl])
  rw [hf] at h0
  have hv : σ x = .func (.yield l) #[] #[] := by
    generalize σ x = u at *
    cases h0
    rfl
  have e3 : LL E (cl.args.toList.map ρ) (cl.args.map σ).toList := by
    refine ⟨by simp, ?_⟩
    intro i c y hc hy
    rw [List.getElem?_map] at hc
    rw [Array.toList_map, List.getElem?_map] at hy
    cases ha : cl.args.toList[i]? with
    | none => rw [ha] at hc; cases hc
    | some a =>
      rw [ha] at hc hy
      cases hc
      cases hy
      exact hl a (by simp [ho, Op.operands, Call.operands]; right; have := List.mem_of_getElem? ha; simpa using this)
  obtain ⟨fn, tmps, assign, body, hy, hR⟩ := hs w E (cl.args.map σ) hh e3
  have hr : (execOp σ o).run P w = .ok (.round l fn tmps assign body) w := by
    unfold execOp
    simp [ho, resolve, hcl, hv, Deferred.ofValue, invoke, hy]
  rw [hr]
  exact hR.mono fun e w' ⟨v, E', h1, h2, h3, h4⟩ => ⟨v, h1, hk v w' E' h2 h3 h4⟩

end
end Go.Ab
