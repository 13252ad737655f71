/- Joined: SafA SafB SafC SafD. -/
import Derived.Test.YtdbcjcnfaajpjaaQF
/- Layer 28: counting. -/
namespace Go.Saf
open Go.Ab Go.Proofs Go.Hy Go.Pla
set_option linter.unusedVariables false
set_option linter.unusedSimpArgs false
set_option maxRecDepth 100000
set_option maxHeartbeats 4000000

abbrev Ce (e : Eve) : C := .agg (encEv e)
/-- How many of the first so many. -/
def cntB (b : Nat → Bool) : Nat → Nat
  | 0 => 0
  | k + 1 => cntB b k + if b k then 1 else 0
theorem cntB_le (b : Nat → Bool) : ∀ k, cntB b k ≤ k
  | 0 => Nat.le_refl _
  | k + 1 => by have := cntB_le b k; unfold cntB; split <;> omega

theorem count0_sound (l : List Eve) (f : FuncId) (b : Nat → Bool) (hl : l.length < 1000000000000) (hcb : callable Try.prog f = true) (hp : ∀ (i : Nat) (e : Eve), l[i]? = some e → SoundAt Try.prog f [] [I i, Ce e] (Bo (b i)) []) :
    SoundAt Try.prog 21 [] [lEv l, .fn f [] []] (I (cntB b l.length : Nat)) [] := by
  have m1 : (l.map encEv).length = l.length := List.length_map ..
  refine SoundAt.of_wpA1 (fn := Try.f21) Try.func21 rfl ?_
  conv => whnf
  rw [m1]
  refine Loops.seq l.length (fun k => [lEv l, .fn f [] [], .junk, .junk, I 0, I (cntB b k : Nat), .junk, .junk, lEv l, I l.length, I k, .junk, .junk, .junk, .junk, .junk, .junk, .junk, .junk, .junk, .junk, .junk, .junk]) (fun k => []) (fun _ => True) ?_ trivial (fun k hk _ => ?_) (fun _ => ?_)
  · exact Weak.cov (by (conv => whnf); (repeat (refine ⟨rfl, ?_⟩; (conv => whnf))); exact trivial)
  · have hq : l[k]? = some l[k] := List.getElem?_eq_getElem hk
    generalize l[k] = e at hq
    have gq : (l.map encEv)[k]? = some (encEv e) := by rw [List.getElem?_map, hq]; rfl
    have hc := cntB_le b k
    conv => whnf
    (refine ⟨fun _ => ?_, fun h => absurd h (by simp; omega)⟩); (conv => whnf); (try (refine ⟨(rfl : (_ : Heap) = _), ?_⟩; (conv => whnf)))
    refine ⟨by omega, _, gq, ?_⟩
    (conv => whnf); (try (refine ⟨(rfl : (_ : Heap) = _), ?_⟩; (conv => whnf)))
    rw [hcb]
    refine ⟨_, _, (hp k e hq).frame rfl _, ?_⟩
    (conv => whnf); (try (refine ⟨(rfl : (_ : Heap) = _), ?_⟩; (conv => whnf)))
    refine ⟨fun h1 => ?_, fun h1 => ?_⟩
    · (conv => whnf); (try (refine ⟨(rfl : (_ : Heap) = _), ?_⟩; (conv => whnf)))
      have e1 : cntB b (k + 1) = cntB b k + 1 := by show cntB b k + _ = _; rw [h1]; rfl
      refine .inl ⟨rfl, ?_, trivial⟩
      rw [i64_nat (by omega), i64_nat (by omega), e1]
      exact Weak.covD 0 (by (conv => whnf); (repeat (refine ⟨rfl, ?_⟩; (conv => whnf))); exact trivial) rfl rfl rfl rfl rfl
    · (conv => whnf); (try (refine ⟨(rfl : (_ : Heap) = _), ?_⟩; (conv => whnf)))
      have e1 : cntB b (k + 1) = cntB b k := by show cntB b k + _ = _; rw [h1]; rfl
      refine .inl ⟨rfl, ?_, trivial⟩
      rw [i64_nat (by omega), e1]
      exact Weak.covD 0 (by (conv => whnf); (repeat (refine ⟨rfl, ?_⟩; (conv => whnf))); exact trivial) rfl rfl rfl rfl rfl
  · conv => whnf
    refine ⟨fun h => absurd h (by simp), fun _ => ?_⟩
    (conv => whnf); (try (refine ⟨(rfl : (_ : Heap) = _), ?_⟩; (conv => whnf)))
    refine ⟨by simp, ?_⟩
    conv => whnf
    exact ⟨.inl rfl, _, .refl _, rfl⟩
/-- The same, by a function that keeps a map. -/
theorem count2_sound (l : List Eve) (f : FuncId) (b : Nat → Bool) (bb ty : Nat) (es : Nat → Array MapEntry) (ck : Nat → Nat) (hl : l.length < 1000000000000) (hcb : callable Try.prog f = true)
    (hp : ∀ (i : Nat) (e : Eve), l[i]? = some e → SoundAt Try.prog f [obM bb (es i) (ck i), ⟨1, ty, 1, [[.v (.map (some bb))]], 0⟩] [I i, Ce e, .ref 1 [] 1 0 0] (Bo (b i)) [obM bb (es (i + 1)) (ck (i + 1)), ⟨1, ty, 1, [[.v (.map (some bb))]], 0⟩]) :
    SoundAt Try.prog 21 [obM bb (es 0) (ck 0), ⟨1, ty, 1, [[.v (.map (some bb))]], 0⟩] [lEv l, .fn f [] [.ref 1 [] 1 0 0]] (I (cntB b l.length : Nat)) [obM bb (es l.length) (ck l.length), ⟨1, ty, 1, [[.v (.map (some bb))]], 0⟩] := by
  have m1 : (l.map encEv).length = l.length := List.length_map ..
  refine SoundAt.of_wpA (fn := Try.f21) Try.func21 rfl ?_
  conv => whnf
  rw [m1]
  refine Loops.seq l.length (fun k => [lEv l, .fn f [] [.ref 1 [] 1 0 0], .junk, .junk, I 0, I (cntB b k : Nat), .junk, .junk, lEv l, I l.length, I k, .junk, .junk, .junk, .junk, .junk, .junk, .junk, .junk, .junk, .junk, .junk, .junk]) (fun k => [obM bb (es k) (ck k), ⟨1, ty, 1, [[.v (.map (some bb))]], 0⟩]) (fun _ => True) ?_ trivial (fun k hk _ => ?_) (fun _ => ?_)
  · exact Weak.cov (by (conv => whnf); (repeat (refine ⟨rfl, ?_⟩; (conv => whnf))); exact trivial)
  · have hq : l[k]? = some l[k] := List.getElem?_eq_getElem hk
    generalize l[k] = e at hq
    have gq : (l.map encEv)[k]? = some (encEv e) := by rw [List.getElem?_map, hq]; rfl
    have hc := cntB_le b k
    conv => whnf
    (refine ⟨fun _ => ?_, fun h => absurd h (by simp; omega)⟩); (conv => whnf); (try (refine ⟨(rfl : (_ : Heap) = _), ?_⟩; (conv => whnf)))
    refine ⟨by omega, _, gq, ?_⟩
    (conv => whnf); (try (refine ⟨(rfl : (_ : Heap) = _), ?_⟩; (conv => whnf)))
    rw [hcb]
    refine callPart [0, 1] (hp k e hq) rfl rfl rfl rfl rfl rfl ?_; (conv => whnf); (try (refine ⟨(rfl : (_ : Heap) = _), ?_⟩; (conv => whnf)))
    refine ⟨fun h1 => ?_, fun h1 => ?_⟩
    · (conv => whnf); (try (refine ⟨(rfl : (_ : Heap) = _), ?_⟩; (conv => whnf)))
      have e1 : cntB b (k + 1) = cntB b k + 1 := by show cntB b k + _ = _; rw [h1]; rfl
      refine .inl ⟨rfl, ?_, trivial⟩
      rw [i64_nat (by omega), i64_nat (by omega), e1]
      exact Weak.covD 2 (by (conv => whnf); (repeat (refine ⟨rfl, ?_⟩; (conv => whnf))); exact trivial) rfl rfl rfl rfl rfl
    · (conv => whnf); (try (refine ⟨(rfl : (_ : Heap) = _), ?_⟩; (conv => whnf)))
      have e1 : cntB b (k + 1) = cntB b k := by show cntB b k + _ = _; rw [h1]; rfl
      refine .inl ⟨rfl, ?_, trivial⟩
      rw [i64_nat (by omega), e1]
      exact Weak.covD 2 (by (conv => whnf); (repeat (refine ⟨rfl, ?_⟩; (conv => whnf))); exact trivial) rfl rfl rfl rfl rfl
  · conv => whnf
    refine ⟨fun h => absurd h (by simp), fun _ => ?_⟩
    (conv => whnf); (try (refine ⟨(rfl : (_ : Heap) = _), ?_⟩; (conv => whnf)))
    refine ⟨by simp, ?_⟩
    conv => whnf
    exact ⟨.inl rfl, _, .refl _, rfl, rfl⟩

/-! ### Which ones -/
def frV (e : Eve) : Bool := decide (e.access = 2) && decide (e.cell = 12)
theorem frees_sound (e : Eve) : SoundAt Try.prog 24 [] [Ce e] (Bo (frV e)) [] := by
  refine SoundAt.of_wpA1 (fn := Try.f24) Try.func24 rfl ?_
  conv => whnf
  refine ⟨fun h1 => ?_, fun h1 => ?_⟩
  · (conv => whnf); (try (refine ⟨(rfl : (_ : Heap) = _), ?_⟩; (conv => whnf)))
    refine ⟨fun h2 => ?_, fun h2 => ?_⟩
    · (conv => whnf); (try (refine ⟨(rfl : (_ : Heap) = _), ?_⟩; (conv => whnf)))
      (exact ⟨.inl rfl, _, .refl _, congrArg (fun b => some (C.v (Value.bool b))) (by unfold frV; simp at h1 h2 ⊢; simp [h1, h2])⟩)
    · (conv => whnf); (try (refine ⟨(rfl : (_ : Heap) = _), ?_⟩; (conv => whnf)))
      (exact ⟨.inl rfl, _, .refl _, congrArg (fun b => some (C.v (Value.bool b))) (by unfold frV; simp at h1 h2 ⊢; simp [h1, h2])⟩)
  · (conv => whnf); (try (refine ⟨(rfl : (_ : Heap) = _), ?_⟩; (conv => whnf)))
    (exact ⟨.inl rfl, _, .refl _, congrArg (fun b => some (C.v (Value.bool b))) (by unfold frV; simp at h1 ⊢; simp [h1])⟩)
theorem touch1_sound (i : Nat) (e : Eve) : SoundAt Try.prog 22 [] [I i, Ce e] (Bo e.freed) [] := by
  refine SoundAt.of_wpA1 (fn := Try.f22) Try.func22 rfl ?_
  conv => whnf
  refine ⟨fun h1 => ?_, fun h1 => ?_⟩ <;> (conv => whnf); (try (refine ⟨(rfl : (_ : Heap) = _), ?_⟩; (conv => whnf)))
  · (exact ⟨.inl rfl, _, .refl _, congrArg (fun b => some (C.v (Value.bool b))) (by exact h1.symm)⟩)
  · (exact ⟨.inl rfl, _, .refl _, congrArg (fun b => some (C.v (Value.bool b))) (by exact h1.symm)⟩)
def atE (l : List Eve) (i : Nat) : Eve := (l[i]?).getD ⟨0, 0, 0, 0, 0, false, 0, false, false, false, ⟨0, 0, 0, 0, 0, 0, 0, six0⟩⟩
theorem atE_eq {l : List Eve} {i : Nat} {e : Eve} (h : l[i]? = some e) : atE l i = e := by unfold atE; rw [h]; rfl
def touchV (l : List Eve) : Nat := cntB (fun i => (atE l i).freed) l.length
theorem touches_sound (l : List Eve) (hl : l.length < 1000000000000) : SoundAt Try.prog 7 [] [lEv l] (I (touchV l)) [] := by
  refine SoundAt.of_wpA1 (fn := Try.f7) Try.func7 rfl ?_
  conv => whnf
  refine ⟨_, _, (count0_sound l 22 (fun i => (atE l i).freed) hl (by kernel_rfl) (fun i e h => (by rw [atE_eq h]; exact touch1_sound i e))).frame rfl _, ?_⟩; (conv => whnf); (try (refine ⟨(rfl : (_ : Heap) = _), ?_⟩; (conv => whnf)))
  exact ⟨.inl rfl, _, .refl _, rfl⟩

/-! ### Twice -/
def vB (l : List Int) : List (Int × Value) := l.map fun x => (x, .bool true)
def addB (l : List Int) (x : Int) : List Int := if x ∈ l then l else l ++ [x]
theorem vB_len (l : List Int) : (vB l).length = l.length := by simp [vB]
theorem find_vB (l : List Int) (x : Int) : findV (vB l) x = l.findIdx? fun y => decide (y = x) := by
  unfold findV vB
  rw [List.findIdx?_map]
  rfl
theorem put_vB (l : List Int) (x : Int) : putV (vB l) x (.bool true) = vB (addB l x) := by
  unfold putV addB
  rw [find_vB]
  cases h : l.findIdx? fun y => decide (y = x) with
  | none =>
    rw [List.findIdx?_eq_none_iff] at h
    have : x ∉ l := fun hx => by have := h x hx; simp at this
    rw [if_neg this]
    simp [vB]
  | some i =>
    obtain ⟨h1, h2, _⟩ := List.findIdx?_eq_some_iff_getElem.1 h
    have e : l[i] = x := by simpa using h2
    rw [if_pos (e ▸ List.getElem_mem h1)]
    dsimp only
    apply List.ext_getElem?
    intro j
    rw [List.getElem?_set]
    split
    · rename_i hij
      subst hij
      simp [vB, h1, e]
    · rfl
theorem get_vB (l : List Int) (x : Int) : (((findV (vB l) x).bind fun i => ((vB l)[i]?).map (·.2)).getD (.bool false)) = .bool (decide (x ∈ l)) := by
  rw [find_vB]
  cases h : l.findIdx? fun y => decide (y = x) with
  | none =>
    rw [List.findIdx?_eq_none_iff] at h
    have : x ∉ l := fun hx => by have := h x hx; simp at this
    simp [this]
  | some i =>
    obtain ⟨h1, h2, _⟩ := List.findIdx?_eq_some_iff_getElem.1 h
    have e : l[i] = x := by simpa using h2
    simp [vB, h1, e ▸ List.getElem_mem h1]
/-- What was freed, by the first so many. -/
def seenN (l : List Eve) : Nat → List Int
  | 0 => []
  | k + 1 => if frV (atE l k) then addB (seenN l k) (atE l k).value else seenN l k
def twB (l : List Eve) (i : Nat) : Bool := frV (atE l i) && decide ((atE l i).value ∈ seenN l i)
def twiceV (l : List Eve) : Nat := cntB (twB l) l.length
theorem kInt : KeyT Try.prog 3 encI64 := .int Try.underlying3
theorem twice1_sound (i bb : Nat) (e : Eve) (s : List Int) : SoundAt Try.prog 23 [obM bb (entE encI64 (vB (s))) (s).length, ⟨1, 51, 1, [[.v (.map (some bb))]], 0⟩] [I i, Ce e, .ref 1 [] 1 0 0] (Bo (frV e && decide (e.value ∈ s))) [obM bb (entE encI64 (vB (if frV e then addB s e.value else s))) (if frV e then addB s e.value else s).length, ⟨1, 51, 1, [[.v (.map (some bb))]], 0⟩] := by
  refine SoundAt.of_wpA (fn := Try.f23) Try.func23 rfl ?_
  conv => whnf
  refine ⟨_, _, (frees_sound e).frame rfl _, ?_⟩
  (conv => whnf); (try (refine ⟨(rfl : (_ : Heap) = _), ?_⟩; (conv => whnf)))
  refine ⟨fun h1 => ?_, fun h1 => ?_⟩
  · rw [h1]
    (conv => whnf); (try (refine ⟨(rfl : (_ : Heap) = _), ?_⟩; (conv => whnf)))
    refine ⟨_, _, OpV.lookup (id := 0) _ _ _ rfl Try.underlying51 kInt (by rw [vB_len]; rfl) rfl (e.value) (fun E u h => val_v h) rfl rfl (fun E => by rw [get_vB]; exact .v _ rfl), ?_⟩; (conv => whnf); (try (refine ⟨(rfl : (_ : Heap) = _), ?_⟩; (conv => whnf)))
    refine ⟨_, _, OpV.mapUpdate (id := 0) _ _ _ _ (.inl rfl) Try.underlying51 kInt (by rw [vB_len]; rfl) rfl (e.value) (fun E u h => val_v h) (.bool true) (fun E u h => val_v h), ?_⟩; (conv => whnf); (try (refine ⟨(rfl : (_ : Heap) = _), ?_⟩; (conv => whnf))); rw [put_vB, vB_len]
    cases hd : decide (e.value ∈ s) with
    | true => exact ⟨.inl rfl, ⟨[.junk, .junk, .junk, .junk, .junk, Bo true, .junk, .junk, .junk, .junk, .junk, .junk, .junk, .junk, .junk, .junk, .junk, .junk], _⟩, Weak.covD 2 (by (conv => whnf); (repeat (refine ⟨rfl, ?_⟩; (conv => whnf))); exact trivial) rfl rfl rfl rfl rfl, rfl, rfl⟩
    | false => exact ⟨.inl rfl, ⟨[.junk, .junk, .junk, .junk, .junk, Bo false, .junk, .junk, .junk, .junk, .junk, .junk, .junk, .junk, .junk, .junk, .junk, .junk], _⟩, Weak.covD 2 (by (conv => whnf); (repeat (refine ⟨rfl, ?_⟩; (conv => whnf))); exact trivial) rfl rfl rfl rfl rfl, rfl, rfl⟩
  · rw [h1]
    (conv => whnf); (try (refine ⟨(rfl : (_ : Heap) = _), ?_⟩; (conv => whnf)))
    exact ⟨.inl rfl, ⟨[.junk, .junk, .junk, .junk, .junk, Bo false, .junk, .junk, .junk, .junk, .junk, .junk, .junk, .junk, .junk, .junk, .junk, .junk], _⟩, Weak.covD 2 (by (conv => whnf); (repeat (refine ⟨rfl, ?_⟩; (conv => whnf))); exact trivial) rfl rfl rfl rfl rfl, rfl, rfl⟩
theorem twice_sound (l : List Eve) (hl : l.length < 1000000000000) : SoundAt Try.prog 9 [] [lEv l] (I (twiceV l)) [] := by
  refine SoundAt.of_wpA1 (fn := Try.f9) Try.func9 rfl ?_
  conv => whnf
  intro bb
  (conv => whnf); (try (refine ⟨(rfl : (_ : Heap) = _), ?_⟩; (conv => whnf)))
  have h := count2_sound l 23 (twB l) bb 51 (fun i => entE encI64 (vB (seenN l i))) (fun i => (seenN l i).length) hl (by kernel_rfl) fun i e h => (by
    have := twice1_sound i bb e (seenN l i)
    rw [← atE_eq h] at this ⊢
    exact this)
  refine ⟨_, _, h, ?_⟩
  (conv => whnf); (try (refine ⟨(rfl : (_ : Heap) = _), ?_⟩; (conv => whnf)))
  exact ⟨.inl rfl, _, .refl _, rfl⟩
end Go.Saf

/- Layer 28: what is freed early. -/
namespace Go.Saf
open Go.Ab Go.Proofs Go.Hy Go.Pla
set_option linter.unusedVariables false
set_option linter.unusedSimpArgs false
set_option maxRecDepth 100000
set_option maxHeartbeats 4000000

/-! ### What each thread has: entries of a thread, a version and a stamp -/
abbrev Hs := List (Int × Int × Nat)
def eE (h : Hs) : List Ent := h.map fun x => (x.1, encI64 x.2.1, x.2.2)
def atT (h : Hs) (t : Int) : Option Nat := h.findIdx? fun x => decide (x.1 = t)
theorem find_eE (h : Hs) (t : Int) : findB (eE h) t = atT h t := by
  unfold findB eE atT
  rw [List.findIdx?_map]
  rfl
def loadsV (e : Eve) : Bool := decide (e.access = 1) && decide (e.cell = 3)
def putH (h : Hs) (k : Nat) (t v : Int) : Hs × Nat := match atT h t with
  | some i => (h.set i (t, v, ((h[i]?).getD (0, 0, 0)).2.2), k)
  | none => (h ++ [(t, v, k)], k + 1)
def delH (h : Hs) (t : Int) : Hs := match atT h t with
  | some i => h.eraseIdx i
  | none => h
def loadH (s : Hs × Nat) (e : Eve) : Hs × Nat := if loadsV e then putH s.1 s.2 e.thread e.value else s
def doneH (s : Hs × Nat) (e : Eve) : Hs × Nat := if e.done then (delH s.1 e.thread, s.2) else s
def hasN (l : List Eve) : Nat → Hs × Nat
  | 0 => ([], 0)
  | k + 1 => doneH (loadH (hasN l k) (atE l k)) (atE l k)
def earH (h : Hs) (v : Int) : Bool := h.any fun x => decide (x.2.1 = v)
def earB (l : List Eve) (i : Nat) : Bool := frV (atE l i) && earH (hasN l i).1 (atE l i).value
def earlyV (l : List Eve) : Nat := cntB (earB l) l.length

structure OkH (h : Hs) (k : Nat) : Prop where
  lt : ∀ x ∈ h, x.2.2 < k
  st : (h.map (·.2.2)).Nodup
  key : (h.map (·.1)).Nodup
theorem atT_some {h : Hs} {t : Int} {i : Nat} (e : atT h t = some i) : ∃ x, h[i]? = some x ∧ x.1 = t := by
  obtain ⟨h1, h2, _⟩ := List.findIdx?_eq_some_iff_getElem.1 e
  exact ⟨h[i], List.getElem?_eq_getElem h1, by simpa using h2⟩
theorem atT_none {h : Hs} {t : Int} (e : atT h t = none) : ∀ x ∈ h, x.1 ≠ t := fun x hx => by
  unfold atT at e
  rw [List.findIdx?_eq_none_iff] at e
  simpa using e x hx
theorem set_map_same {α β : Type} (f : α → β) {l : List α} {i : Nat} {x y : α} (hx : l[i]? = some x) (he : f y = f x) : (l.set i y).map f = l.map f := by
  apply List.ext_getElem?
  intro j
  rw [List.getElem?_map, List.getElem?_set, List.getElem?_map]
  split
  · rename_i e
    subst e
    rw [if_pos (List.getElem?_eq_some_iff.1 hx).1, hx]
    simp [he]
  · rfl
theorem OkH.put {h : Hs} {k : Nat} (o : OkH h k) (t v : Int) : OkH (putH h k t v).1 (putH h k t v).2 := by
  unfold putH
  cases e : atT h t with
  | some i =>
    obtain ⟨x, hx, hxt⟩ := atT_some e
    dsimp only
    rw [hx]
    dsimp only [Option.getD_some]
    refine ⟨fun y hy => ?_, ?_, ?_⟩
    · rcases List.mem_or_eq_of_mem_set hy with h1 | rfl
      · exact o.lt y h1
      · exact o.lt x (List.mem_of_getElem? hx)
    · rw [set_map_same (y := (t, v, x.2.2)) (·.2.2) hx rfl]; exact o.st
    · rw [set_map_same (y := (t, v, x.2.2)) (·.1) hx hxt.symm]; exact o.key
  | none =>
    dsimp only
    refine ⟨fun y hy => ?_, ?_, ?_⟩
    · rcases List.mem_append.1 hy with h1 | h1
      · have := o.lt y h1; omega
      · simp at h1; subst h1; simp
    · rw [List.map_append, List.nodup_append]
      refine ⟨o.st, by simp, ?_⟩
      intro a ha b hb
      simp at hb
      subst hb
      obtain ⟨x, hx, rfl⟩ := List.mem_map.1 ha
      have := o.lt x hx
      omega
    · rw [List.map_append, List.nodup_append]
      refine ⟨o.key, by simp, ?_⟩
      intro a ha b hb
      simp at hb
      subst hb
      obtain ⟨x, hx, rfl⟩ := List.mem_map.1 ha
      exact atT_none e x hx
theorem OkH.del {h : Hs} {k : Nat} (o : OkH h k) (t : Int) : OkH (delH h t) k := by
  unfold delH
  cases e : atT h t with
  | none => exact o
  | some i =>
    dsimp only
    have hs := List.eraseIdx_sublist h i
    exact ⟨fun x hx => o.lt x (hs.subset hx), (hs.map _).nodup o.st, (hs.map _).nodup o.key⟩
theorem OkH.load {s : Hs × Nat} (o : OkH s.1 s.2) (e : Eve) : OkH (loadH s e).1 (loadH s e).2 := by
  unfold loadH
  split
  · exact o.put _ _
  · exact o
theorem OkH.done {s : Hs × Nat} (o : OkH s.1 s.2) (e : Eve) : OkH (doneH s e).1 (doneH s e).2 := by
  unfold doneH
  split
  · exact o.del _
  · exact o
theorem hasN_ok (l : List Eve) : ∀ k, OkH (hasN l k).1 (hasN l k).2
  | 0 => ⟨by simp [hasN], by simp [hasN], by simp [hasN]⟩
  | k + 1 => ((hasN_ok l k).load _).done _

/-! ### The walk -/
theorem eE_get {h : Hs} {j : Nat} {x : Ent} (hx : (eE h)[j]? = some x) : ∃ y, h[j]? = some y ∧ x = (y.1, encI64 y.2.1, y.2.2) := by
  unfold eE at hx
  rw [List.getElem?_map] at hx
  cases hy : h[j]? with
  | none => rw [hy] at hx; cases hx
  | some y => rw [hy] at hx; cases hx; exact ⟨y, rfl, rfl⟩
theorem delMapE {P : Program} {o : Oper} {ρ : Operand → C} {H : Heap} {kt et : TypeId} (cl : Call) (ho : o.op = .call cl) (hcl : cl.callee = .builtin .delete) {m x : Operand} {tm tk : TypeId} (ha : cl.args = #[m, x]) (hat : cl.argTypes = #[tm, tk]) (ht : P.underlying tm = some (.map kt et)) (hu : P.underlying kt = some (.int .i64)) {id b k : Nat} {h : Hs} (hob : H[id]? = some (obM b (entB (eE h)) k))
    (hm : ρ m = .v (.map (some b))) {kx : Int} (hx : ρ x = .v (.int .i64 kx)) {R : C → Heap → Prop} (h1 : R .un (H.set id (obM b (entB (eE (delH h kx))) k))) : OpVR P o ρ H R := by
  refine OpVR.deleteMap cl ho hcl ha hat ht hu hob hm hx ?_
  rw [find_eE]
  unfold delH at h1
  cases hf : atT h kx with
  | none => rw [hf] at h1; exact h1
  | some i => rw [hf] at h1; rw [show (eE (h.eraseIdx i)) = (eE h).eraseIdx i from (map_eraseIdx' _ _ _).symm] at h1; exact h1
/-- What was seen so far of the entries. -/
def seenE (h : Hs) (seen : Array Nat) (v : Int) : Bool := h.any fun x => seen.contains x.2.2 && decide (x.2.1 = v)
theorem seenE_push {h : Hs} {k : Nat} (ok : OkH h k) (seen : Array Nat) {y : Int × Int × Nat} (hy : y ∈ h) (v : Int) : seenE h (seen.push y.2.2) v = (seenE h seen v || decide (y.2.1 = v)) := by
  unfold seenE
  rw [Bool.eq_iff_iff]
  simp only [List.any_eq_true, Bool.or_eq_true, Bool.and_eq_true, decide_eq_true_eq, Array.contains_eq_mem, Array.mem_push]
  constructor
  · rintro ⟨x, hx, h1 | h1, h2⟩
    · exact .inl ⟨x, hx, h1, h2⟩
    · obtain ⟨i, hi⟩ := List.mem_iff_getElem?.1 hx
      obtain ⟨j, hj⟩ := List.mem_iff_getElem?.1 hy
      have hil := (List.getElem?_eq_some_iff.1 hi).1
      have hjl := (List.getElem?_eq_some_iff.1 hj).1
      have hst := List.pairwise_iff_getElem.1 ok.st
      rw [List.getElem?_eq_getElem hil] at hi
      rw [List.getElem?_eq_getElem hjl] at hj
      have hi' := Option.some.inj hi
      have hj' := Option.some.inj hj
      have : i = j := by
        rcases Nat.lt_trichotomy i j with hlt | heq | hlt
        · exact (hst i j (by simpa using hil) (by simpa using hjl) hlt (by simp only [List.getElem_map]; rw [hi', hj']; exact h1)).elim
        · exact heq
        · exact (hst j i (by simpa using hjl) (by simpa using hil) hlt (by simp only [List.getElem_map]; rw [hi', hj']; exact h1.symm)).elim
      subst this
      rw [hi'] at hj'
      subst hj'
      exact .inr h2
  · rintro (⟨x, hx, h1, h2⟩ | h2)
    · exact ⟨x, hx, .inl h1, h2⟩
    · exact ⟨y, hy, .inr rfl, h2⟩
theorem seen_less {h : Hs} (seen : Array Nat) {y : Int × Int × Nat} (hy : y ∈ h) (hs : seen.contains y.2.2 = false) : (h.filter fun x => !(seen.push y.2.2).contains x.2.2).length < (h.filter fun x => !seen.contains x.2.2).length := by
  have e : (h.filter fun x => !(seen.push y.2.2).contains x.2.2) = (h.filter fun x => !seen.contains x.2.2).filter fun x => !(x.2.2 == y.2.2) := by
    rw [List.filter_filter]
    refine List.filter_congr fun x _ => ?_
    rw [Bool.eq_iff_iff]
    simp [Array.mem_push, not_or, and_comm]
  rw [e]
  refine List.length_filter_lt_length_iff_exists.2 ⟨y, ?_, by simp⟩
  rw [List.mem_filter]
  exact ⟨hy, by simpa using hs⟩
theorem early1_sound (i bb : Nat) (e : Eve) (h : Hs) (k : Nat) (ok : OkH h k) : SoundAt Try.prog 26 [obM bb (entB (eE (h))) (k), ⟨1, 53, 1, [[.v (.map (some bb))]], 0⟩] [I i, Ce e, .ref 1 [] 1 0 0] (Bo (frV e && earH h e.value)) [obM bb (entB (eE ((doneH (loadH (h, k) e) e).1))) ((doneH (loadH (h, k) e) e).2), ⟨1, 53, 1, [[.v (.map (some bb))]], 0⟩] := by
  refine SoundAt.of_wpA (fn := Try.f26) Try.func26 rfl ?_
  conv => whnf
  refine ⟨_, _, (frees_sound e).frame rfl _, ?_⟩
  (conv => whnf); (try (refine ⟨(rfl : (_ : Heap) = _), ?_⟩; (conv => whnf)))
  refine ⟨fun h1 => ?_, fun h1 => ?_⟩
  · rw [h1]
    (conv => whnf); (try (refine ⟨(rfl : (_ : Heap) = _), ?_⟩; (conv => whnf)))
    refine OpVR.rangeMap (id := 0) _ _ rfl rfl rfl rfl ?_
    intro r
    (conv => whnf); (try (refine ⟨(rfl : (_ : Heap) = _), ?_⟩; (conv => whnf)))
    refine Loops.inv (fun n t1 H1 => ∃ seen : Array Nat, n = (h.filter fun x => !seen.contains x.2.2).length ∧ t1 = [I i, Ce e, .ref 1 [] 1 0 0, .junk, .ref 2 [] 23 0 0, Bo false, Bo (seenE h seen e.value), .junk, .junk, .junk, .junk, .junk, .v (.pointer (some ⟨r, 0, none⟩)), .junk, .junk, .junk, .junk, .junk, .junk, .junk, .junk, .junk, .junk, .junk, .junk, .junk, .junk, .junk, .junk, .junk, .junk, .junk, .junk, .junk, .junk, .junk, .junk, .junk, .junk, .junk, .junk, .junk, .junk] ∧ H1 = [obM bb (entB (eE (h))) (k), ⟨1, 53, 1, [[.v (.map (some bb))]], 0⟩, ⟨1, 49, 23, [encEv e], 0⟩, obT r bb k seen k]) h.length ?_ ?_
    · have e0 : seenE h #[] e.value = false := by simp [seenE]
      refine ⟨[I i, Ce e, .ref 1 [] 1 0 0, .junk, .ref 2 [] 23 0 0, Bo false, Bo false, .junk, .junk, .junk, .junk, .junk, .v (.pointer (some ⟨r, 0, none⟩)), .junk, .junk, .junk, .junk, .junk, .junk, .junk, .junk, .junk, .junk, .junk, .junk, .junk, .junk, .junk, .junk, .junk, .junk, .junk, .junk, .junk, .junk, .junk, .junk, .junk, .junk, .junk, .junk, .junk, .junk], [obM bb (entB (eE (h))) (k), ⟨1, 53, 1, [[.v (.map (some bb))]], 0⟩, ⟨1, 49, 23, [encEv e], 0⟩, obT r bb k #[] k], Weak.cov (by (conv => whnf); (repeat (refine ⟨rfl, ?_⟩; (conv => whnf))); exact trivial), #[], (by show h.length = _; rw [List.filter_eq_self.2 (by simp)]), ?_, rfl⟩
      rw [e0]
    · rintro n _ _ ⟨seen, hn, rfl, rfl⟩
      conv => whnf
      refine OpVR.nextMap (id := 0) (id2 := 3) _ rfl rfl rfl rfl (fun x hx => ?_) (Nat.le_refl _) (fun hall => ?_) (fun j x hx hs => ?_)
      · simp only [eE, List.mem_map] at hx
        obtain ⟨y, hy, rfl⟩ := hx
        exact ok.lt y hy
      · (conv => whnf); (try (refine ⟨(rfl : (_ : Heap) = _), ?_⟩; (conv => whnf)))
        (repeat (first | (refine ⟨fun _ => ?_, fun h => absurd h (by decide)⟩; (conv => whnf); (try (refine ⟨(rfl : (_ : Heap) = _), ?_⟩; (conv => whnf)))) | (refine ⟨fun h => absurd h (by decide), fun _ => ?_⟩; (conv => whnf); (try (refine ⟨(rfl : (_ : Heap) = _), ?_⟩; (conv => whnf))))))
        refine .inr ⟨by simp, ?_⟩
        have eh : seenE h seen e.value = earH h e.value := by
          unfold seenE earH
          rw [Bool.eq_iff_iff, List.any_eq_true, List.any_eq_true]
          constructor
          · rintro ⟨x, hx, hv⟩; rw [Bool.and_eq_true] at hv; exact ⟨x, hx, hv.2⟩
          · rintro ⟨x, hx, hv⟩; exact ⟨x, hx, by rw [hall _ (List.mem_map_of_mem (f := fun x : Int × Int × Nat => ((x.1, encI64 x.2.1, x.2.2) : Ent)) hx)]; simpa using hv⟩
        rw [eh]
        (conv => whnf); (try (refine ⟨(rfl : (_ : Heap) = _), ?_⟩; (conv => whnf)))
        refine ⟨fun hl1 => ?_, fun hl1 => ?_⟩
        · (conv => whnf); (try (refine ⟨(rfl : (_ : Heap) = _), ?_⟩; (conv => whnf)))
          refine ⟨fun hl2 => ?_, fun hl2 => ?_⟩
          · (conv => whnf); (try (refine ⟨(rfl : (_ : Heap) = _), ?_⟩; (conv => whnf)))
            have hL0 : loadH (h, k) e = putH h k e.thread e.value := by unfold loadH loadsV; rw [show decide (e.access = 1) = true from hl1, show decide (e.cell = 3) = true from hl2]; rfl
            cases hf : atT h e.thread with
            | some j =>
              obtain ⟨x, hx, hxt⟩ := atT_some hf
              have hL : loadH (h, k) e = (h.set j (e.thread, e.value, x.2.2), k) := by rw [hL0]; unfold putH; rw [hf]; dsimp only; rw [hx]; rfl
              refine ⟨_, _, OpV.updHit (id := 0) _ _ _ _ (.inl rfl) rfl rfl rfl rfl rfl ((find_eE h e.thread).trans hf) (by unfold eE; rw [List.getElem?_map, hx]; rfl) rfl, ?_⟩
              (conv => whnf); (try (refine ⟨(rfl : (_ : Heap) = _), ?_⟩; (conv => whnf)))
              rw [show ((eE h).set j (x.1, encI64 e.value, x.2.2)) = eE (h.set j (e.thread, e.value, x.2.2)) from by unfold eE; rw [List.map_set, hxt]]
              refine ⟨fun hd => ?_, fun hd => ?_⟩
              · (conv => whnf); (try (refine ⟨(rfl : (_ : Heap) = _), ?_⟩; (conv => whnf)))
                refine delMapE (id := 0) _ rfl rfl rfl rfl rfl rfl rfl rfl rfl ?_
                have eD : doneH (loadH (h, k) e) e = (delH (h.set j (e.thread, e.value, x.2.2)) e.thread, k) := by unfold doneH; rw [hd, hL]; rfl
                rw [eD]
                (conv => whnf); (try (refine ⟨(rfl : (_ : Heap) = _), ?_⟩; (conv => whnf)))
                exact ⟨.inl rfl, ⟨[.junk, .junk, .junk, .junk, .junk, Bo (earH h e.value), .junk, .junk, .junk, .junk, .junk, .junk, .junk, .junk, .junk, .junk, .junk, .junk, .junk, .junk, .junk, .junk, .junk, .junk, .junk, .junk, .junk, .junk, .junk, .junk, .junk, .junk, .junk, .junk, .junk, .junk, .junk, .junk, .junk, .junk, .junk, .junk, .junk], _⟩, Weak.covD 2 (by (conv => whnf); (repeat (refine ⟨rfl, ?_⟩; (conv => whnf))); exact trivial) rfl rfl rfl rfl rfl, rfl, rfl⟩
              · (conv => whnf); (try (refine ⟨(rfl : (_ : Heap) = _), ?_⟩; (conv => whnf)))
                have eD : doneH (loadH (h, k) e) e = ((h.set j (e.thread, e.value, x.2.2)), k) := by unfold doneH; rw [hd, hL]; rfl
                rw [eD]
                exact ⟨.inl rfl, ⟨[.junk, .junk, .junk, .junk, .junk, Bo (earH h e.value), .junk, .junk, .junk, .junk, .junk, .junk, .junk, .junk, .junk, .junk, .junk, .junk, .junk, .junk, .junk, .junk, .junk, .junk, .junk, .junk, .junk, .junk, .junk, .junk, .junk, .junk, .junk, .junk, .junk, .junk, .junk, .junk, .junk, .junk, .junk, .junk, .junk], _⟩, Weak.covD 2 (by (conv => whnf); (repeat (refine ⟨rfl, ?_⟩; (conv => whnf))); exact trivial) rfl rfl rfl rfl rfl, rfl, rfl⟩
            | none =>
              have hL : loadH (h, k) e = (h ++ [(e.thread, e.value, k)], k + 1) := by rw [hL0]; unfold putH; rw [hf]
              refine ⟨_, _, OpV.updMiss (id := 0) _ _ _ _ (.inl rfl) rfl rfl rfl rfl rfl ((find_eE h e.thread).trans hf) rfl, ?_⟩
              (conv => whnf); (try (refine ⟨(rfl : (_ : Heap) = _), ?_⟩; (conv => whnf)))
              rw [show (eE h ++ [(e.thread, encI64 e.value, k)]) = eE (h ++ [(e.thread, e.value, k)]) from by unfold eE; simp]
              refine ⟨fun hd => ?_, fun hd => ?_⟩
              · (conv => whnf); (try (refine ⟨(rfl : (_ : Heap) = _), ?_⟩; (conv => whnf)))
                refine delMapE (id := 0) _ rfl rfl rfl rfl rfl rfl rfl rfl rfl ?_
                have eD : doneH (loadH (h, k) e) e = (delH (h ++ [(e.thread, e.value, k)]) e.thread, (k + 1)) := by unfold doneH; rw [hd, hL]; rfl
                rw [eD]
                (conv => whnf); (try (refine ⟨(rfl : (_ : Heap) = _), ?_⟩; (conv => whnf)))
                exact ⟨.inl rfl, ⟨[.junk, .junk, .junk, .junk, .junk, Bo (earH h e.value), .junk, .junk, .junk, .junk, .junk, .junk, .junk, .junk, .junk, .junk, .junk, .junk, .junk, .junk, .junk, .junk, .junk, .junk, .junk, .junk, .junk, .junk, .junk, .junk, .junk, .junk, .junk, .junk, .junk, .junk, .junk, .junk, .junk, .junk, .junk, .junk, .junk], _⟩, Weak.covD 2 (by (conv => whnf); (repeat (refine ⟨rfl, ?_⟩; (conv => whnf))); exact trivial) rfl rfl rfl rfl rfl, rfl, rfl⟩
              · (conv => whnf); (try (refine ⟨(rfl : (_ : Heap) = _), ?_⟩; (conv => whnf)))
                have eD : doneH (loadH (h, k) e) e = ((h ++ [(e.thread, e.value, k)]), (k + 1)) := by unfold doneH; rw [hd, hL]; rfl
                rw [eD]
                exact ⟨.inl rfl, ⟨[.junk, .junk, .junk, .junk, .junk, Bo (earH h e.value), .junk, .junk, .junk, .junk, .junk, .junk, .junk, .junk, .junk, .junk, .junk, .junk, .junk, .junk, .junk, .junk, .junk, .junk, .junk, .junk, .junk, .junk, .junk, .junk, .junk, .junk, .junk, .junk, .junk, .junk, .junk, .junk, .junk, .junk, .junk, .junk, .junk], _⟩, Weak.covD 2 (by (conv => whnf); (repeat (refine ⟨rfl, ?_⟩; (conv => whnf))); exact trivial) rfl rfl rfl rfl rfl, rfl, rfl⟩
          · (conv => whnf); (try (refine ⟨(rfl : (_ : Heap) = _), ?_⟩; (conv => whnf)))
            have hL : loadH (h, k) e = (h, k) := by unfold loadH loadsV; rw [show decide (e.cell = 3) = false from hl2]; simp
            refine ⟨fun hd => ?_, fun hd => ?_⟩
            · (conv => whnf); (try (refine ⟨(rfl : (_ : Heap) = _), ?_⟩; (conv => whnf)))
              refine delMapE (id := 0) _ rfl rfl rfl rfl rfl rfl rfl rfl rfl ?_
              have eD : doneH (loadH (h, k) e) e = (delH h e.thread, k) := by unfold doneH; rw [hd, hL]; rfl
              rw [eD]
              (conv => whnf); (try (refine ⟨(rfl : (_ : Heap) = _), ?_⟩; (conv => whnf)))
              exact ⟨.inl rfl, ⟨[.junk, .junk, .junk, .junk, .junk, Bo (earH h e.value), .junk, .junk, .junk, .junk, .junk, .junk, .junk, .junk, .junk, .junk, .junk, .junk, .junk, .junk, .junk, .junk, .junk, .junk, .junk, .junk, .junk, .junk, .junk, .junk, .junk, .junk, .junk, .junk, .junk, .junk, .junk, .junk, .junk, .junk, .junk, .junk, .junk], _⟩, Weak.covD 2 (by (conv => whnf); (repeat (refine ⟨rfl, ?_⟩; (conv => whnf))); exact trivial) rfl rfl rfl rfl rfl, rfl, rfl⟩
            · (conv => whnf); (try (refine ⟨(rfl : (_ : Heap) = _), ?_⟩; (conv => whnf)))
              have eD : doneH (loadH (h, k) e) e = (h, k) := by unfold doneH; rw [hd, hL]; rfl
              rw [eD]
              exact ⟨.inl rfl, ⟨[.junk, .junk, .junk, .junk, .junk, Bo (earH h e.value), .junk, .junk, .junk, .junk, .junk, .junk, .junk, .junk, .junk, .junk, .junk, .junk, .junk, .junk, .junk, .junk, .junk, .junk, .junk, .junk, .junk, .junk, .junk, .junk, .junk, .junk, .junk, .junk, .junk, .junk, .junk, .junk, .junk, .junk, .junk, .junk, .junk], _⟩, Weak.covD 2 (by (conv => whnf); (repeat (refine ⟨rfl, ?_⟩; (conv => whnf))); exact trivial) rfl rfl rfl rfl rfl, rfl, rfl⟩
        · (conv => whnf); (try (refine ⟨(rfl : (_ : Heap) = _), ?_⟩; (conv => whnf)))
          have hL : loadH (h, k) e = (h, k) := by unfold loadH loadsV; rw [show decide (e.access = 1) = false from hl1]; simp
          refine ⟨fun hd => ?_, fun hd => ?_⟩
          · (conv => whnf); (try (refine ⟨(rfl : (_ : Heap) = _), ?_⟩; (conv => whnf)))
            refine delMapE (id := 0) _ rfl rfl rfl rfl rfl rfl rfl rfl rfl ?_
            have eD : doneH (loadH (h, k) e) e = (delH h e.thread, k) := by unfold doneH; rw [hd, hL]; rfl
            rw [eD]
            (conv => whnf); (try (refine ⟨(rfl : (_ : Heap) = _), ?_⟩; (conv => whnf)))
            exact ⟨.inl rfl, ⟨[.junk, .junk, .junk, .junk, .junk, Bo (earH h e.value), .junk, .junk, .junk, .junk, .junk, .junk, .junk, .junk, .junk, .junk, .junk, .junk, .junk, .junk, .junk, .junk, .junk, .junk, .junk, .junk, .junk, .junk, .junk, .junk, .junk, .junk, .junk, .junk, .junk, .junk, .junk, .junk, .junk, .junk, .junk, .junk, .junk], _⟩, Weak.covD 2 (by (conv => whnf); (repeat (refine ⟨rfl, ?_⟩; (conv => whnf))); exact trivial) rfl rfl rfl rfl rfl, rfl, rfl⟩
          · (conv => whnf); (try (refine ⟨(rfl : (_ : Heap) = _), ?_⟩; (conv => whnf)))
            have eD : doneH (loadH (h, k) e) e = (h, k) := by unfold doneH; rw [hd, hL]; rfl
            rw [eD]
            exact ⟨.inl rfl, ⟨[.junk, .junk, .junk, .junk, .junk, Bo (earH h e.value), .junk, .junk, .junk, .junk, .junk, .junk, .junk, .junk, .junk, .junk, .junk, .junk, .junk, .junk, .junk, .junk, .junk, .junk, .junk, .junk, .junk, .junk, .junk, .junk, .junk, .junk, .junk, .junk, .junk, .junk, .junk, .junk, .junk, .junk, .junk, .junk, .junk], _⟩, Weak.covD 2 (by (conv => whnf); (repeat (refine ⟨rfl, ?_⟩; (conv => whnf))); exact trivial) rfl rfl rfl rfl rfl, rfl, rfl⟩
      · obtain ⟨y, hy, rfl⟩ := eE_get hx
        (conv => whnf); (try (refine ⟨(rfl : (_ : Heap) = _), ?_⟩; (conv => whnf)))
        (repeat (first | (refine ⟨fun _ => ?_, fun h => absurd h (by decide)⟩; (conv => whnf); (try (refine ⟨(rfl : (_ : Heap) = _), ?_⟩; (conv => whnf)))) | (refine ⟨fun h => absurd h (by decide), fun _ => ?_⟩; (conv => whnf); (try (refine ⟨(rfl : (_ : Heap) = _), ?_⟩; (conv => whnf))))))
        refine OpVR.entryMap (id := 0) (id2 := 3) _ rfl rfl hx rfl rfl (by simpa [eE, List.map_map, Function.comp_def] using ok.st) rfl ?_
        (conv => whnf); (try (refine ⟨(rfl : (_ : Heap) = _), ?_⟩; (conv => whnf)))
        have hym := List.mem_of_getElem? hy
        have hps := seenE_push ok seen hym e.value
        have hls := seen_less seen hym hs
        cases hb : seenE h seen e.value with
        | true =>
          (conv => whnf); (try (refine ⟨(rfl : (_ : Heap) = _), ?_⟩; (conv => whnf)))
          rw [hb, Bool.true_or] at hps
          exact .inl ⟨rfl, _, _, _, by rw [hn]; exact hls, Weak.mask [0, 1, 2, 4, 5, 6, 12] _ _, seen.push y.2.2, rfl, by rw [hps]; rfl, rfl⟩
        | false =>
          rw [hb, Bool.false_or] at hps
          (conv => whnf); (try (refine ⟨(rfl : (_ : Heap) = _), ?_⟩; (conv => whnf)))
          refine ⟨fun h2 => ?_, fun h2 => ?_⟩ <;> (conv => whnf); (try (refine ⟨(rfl : (_ : Heap) = _), ?_⟩; (conv => whnf)))
          · rw [show decide (y.2.1 = e.value) = true from by simpa using h2] at hps
            exact .inl ⟨rfl, _, _, _, by rw [hn]; exact hls, Weak.mask [0, 1, 2, 4, 5, 6, 12] _ _, seen.push y.2.2, rfl, by rw [hps]; rfl, rfl⟩
          · rw [show decide (y.2.1 = e.value) = false from by simpa using h2] at hps
            exact .inl ⟨rfl, _, _, _, by rw [hn]; exact hls, Weak.mask [0, 1, 2, 4, 5, 6, 12] _ _, seen.push y.2.2, rfl, by rw [hps]; rfl, rfl⟩
  · rw [h1]
    (conv => whnf); (try (refine ⟨(rfl : (_ : Heap) = _), ?_⟩; (conv => whnf)))
    refine ⟨fun hl1 => ?_, fun hl1 => ?_⟩
    · (conv => whnf); (try (refine ⟨(rfl : (_ : Heap) = _), ?_⟩; (conv => whnf)))
      refine ⟨fun hl2 => ?_, fun hl2 => ?_⟩
      · (conv => whnf); (try (refine ⟨(rfl : (_ : Heap) = _), ?_⟩; (conv => whnf)))
        have hL0 : loadH (h, k) e = putH h k e.thread e.value := by unfold loadH loadsV; rw [show decide (e.access = 1) = true from hl1, show decide (e.cell = 3) = true from hl2]; rfl
        cases hf : atT h e.thread with
        | some j =>
          obtain ⟨x, hx, hxt⟩ := atT_some hf
          have hL : loadH (h, k) e = (h.set j (e.thread, e.value, x.2.2), k) := by rw [hL0]; unfold putH; rw [hf]; dsimp only; rw [hx]; rfl
          refine ⟨_, _, OpV.updHit (id := 0) _ _ _ _ (.inl rfl) rfl rfl rfl rfl rfl ((find_eE h e.thread).trans hf) (by unfold eE; rw [List.getElem?_map, hx]; rfl) rfl, ?_⟩
          (conv => whnf); (try (refine ⟨(rfl : (_ : Heap) = _), ?_⟩; (conv => whnf)))
          rw [show ((eE h).set j (x.1, encI64 e.value, x.2.2)) = eE (h.set j (e.thread, e.value, x.2.2)) from by unfold eE; rw [List.map_set, hxt]]
          refine ⟨fun hd => ?_, fun hd => ?_⟩
          · (conv => whnf); (try (refine ⟨(rfl : (_ : Heap) = _), ?_⟩; (conv => whnf)))
            refine delMapE (id := 0) _ rfl rfl rfl rfl rfl rfl rfl rfl rfl ?_
            have eD : doneH (loadH (h, k) e) e = (delH (h.set j (e.thread, e.value, x.2.2)) e.thread, k) := by unfold doneH; rw [hd, hL]; rfl
            rw [eD]
            (conv => whnf); (try (refine ⟨(rfl : (_ : Heap) = _), ?_⟩; (conv => whnf)))
            exact ⟨.inl rfl, ⟨[.junk, .junk, .junk, .junk, .junk, Bo (false), .junk, .junk, .junk, .junk, .junk, .junk, .junk, .junk, .junk, .junk, .junk, .junk, .junk, .junk, .junk, .junk, .junk, .junk, .junk, .junk, .junk, .junk, .junk, .junk, .junk, .junk, .junk, .junk, .junk, .junk, .junk, .junk, .junk, .junk, .junk, .junk, .junk], _⟩, Weak.covD 2 (by (conv => whnf); (repeat (refine ⟨rfl, ?_⟩; (conv => whnf))); exact trivial) rfl rfl rfl rfl rfl, rfl, rfl⟩
          · (conv => whnf); (try (refine ⟨(rfl : (_ : Heap) = _), ?_⟩; (conv => whnf)))
            have eD : doneH (loadH (h, k) e) e = ((h.set j (e.thread, e.value, x.2.2)), k) := by unfold doneH; rw [hd, hL]; rfl
            rw [eD]
            exact ⟨.inl rfl, ⟨[.junk, .junk, .junk, .junk, .junk, Bo (false), .junk, .junk, .junk, .junk, .junk, .junk, .junk, .junk, .junk, .junk, .junk, .junk, .junk, .junk, .junk, .junk, .junk, .junk, .junk, .junk, .junk, .junk, .junk, .junk, .junk, .junk, .junk, .junk, .junk, .junk, .junk, .junk, .junk, .junk, .junk, .junk, .junk], _⟩, Weak.covD 2 (by (conv => whnf); (repeat (refine ⟨rfl, ?_⟩; (conv => whnf))); exact trivial) rfl rfl rfl rfl rfl, rfl, rfl⟩
        | none =>
          have hL : loadH (h, k) e = (h ++ [(e.thread, e.value, k)], k + 1) := by rw [hL0]; unfold putH; rw [hf]
          refine ⟨_, _, OpV.updMiss (id := 0) _ _ _ _ (.inl rfl) rfl rfl rfl rfl rfl ((find_eE h e.thread).trans hf) rfl, ?_⟩
          (conv => whnf); (try (refine ⟨(rfl : (_ : Heap) = _), ?_⟩; (conv => whnf)))
          rw [show (eE h ++ [(e.thread, encI64 e.value, k)]) = eE (h ++ [(e.thread, e.value, k)]) from by unfold eE; simp]
          refine ⟨fun hd => ?_, fun hd => ?_⟩
          · (conv => whnf); (try (refine ⟨(rfl : (_ : Heap) = _), ?_⟩; (conv => whnf)))
            refine delMapE (id := 0) _ rfl rfl rfl rfl rfl rfl rfl rfl rfl ?_
            have eD : doneH (loadH (h, k) e) e = (delH (h ++ [(e.thread, e.value, k)]) e.thread, (k + 1)) := by unfold doneH; rw [hd, hL]; rfl
            rw [eD]
            (conv => whnf); (try (refine ⟨(rfl : (_ : Heap) = _), ?_⟩; (conv => whnf)))
            exact ⟨.inl rfl, ⟨[.junk, .junk, .junk, .junk, .junk, Bo (false), .junk, .junk, .junk, .junk, .junk, .junk, .junk, .junk, .junk, .junk, .junk, .junk, .junk, .junk, .junk, .junk, .junk, .junk, .junk, .junk, .junk, .junk, .junk, .junk, .junk, .junk, .junk, .junk, .junk, .junk, .junk, .junk, .junk, .junk, .junk, .junk, .junk], _⟩, Weak.covD 2 (by (conv => whnf); (repeat (refine ⟨rfl, ?_⟩; (conv => whnf))); exact trivial) rfl rfl rfl rfl rfl, rfl, rfl⟩
          · (conv => whnf); (try (refine ⟨(rfl : (_ : Heap) = _), ?_⟩; (conv => whnf)))
            have eD : doneH (loadH (h, k) e) e = ((h ++ [(e.thread, e.value, k)]), (k + 1)) := by unfold doneH; rw [hd, hL]; rfl
            rw [eD]
            exact ⟨.inl rfl, ⟨[.junk, .junk, .junk, .junk, .junk, Bo (false), .junk, .junk, .junk, .junk, .junk, .junk, .junk, .junk, .junk, .junk, .junk, .junk, .junk, .junk, .junk, .junk, .junk, .junk, .junk, .junk, .junk, .junk, .junk, .junk, .junk, .junk, .junk, .junk, .junk, .junk, .junk, .junk, .junk, .junk, .junk, .junk, .junk], _⟩, Weak.covD 2 (by (conv => whnf); (repeat (refine ⟨rfl, ?_⟩; (conv => whnf))); exact trivial) rfl rfl rfl rfl rfl, rfl, rfl⟩
      · (conv => whnf); (try (refine ⟨(rfl : (_ : Heap) = _), ?_⟩; (conv => whnf)))
        have hL : loadH (h, k) e = (h, k) := by unfold loadH loadsV; rw [show decide (e.cell = 3) = false from hl2]; simp
        refine ⟨fun hd => ?_, fun hd => ?_⟩
        · (conv => whnf); (try (refine ⟨(rfl : (_ : Heap) = _), ?_⟩; (conv => whnf)))
          refine delMapE (id := 0) _ rfl rfl rfl rfl rfl rfl rfl rfl rfl ?_
          have eD : doneH (loadH (h, k) e) e = (delH h e.thread, k) := by unfold doneH; rw [hd, hL]; rfl
          rw [eD]
          (conv => whnf); (try (refine ⟨(rfl : (_ : Heap) = _), ?_⟩; (conv => whnf)))
          exact ⟨.inl rfl, ⟨[.junk, .junk, .junk, .junk, .junk, Bo (false), .junk, .junk, .junk, .junk, .junk, .junk, .junk, .junk, .junk, .junk, .junk, .junk, .junk, .junk, .junk, .junk, .junk, .junk, .junk, .junk, .junk, .junk, .junk, .junk, .junk, .junk, .junk, .junk, .junk, .junk, .junk, .junk, .junk, .junk, .junk, .junk, .junk], _⟩, Weak.covD 2 (by (conv => whnf); (repeat (refine ⟨rfl, ?_⟩; (conv => whnf))); exact trivial) rfl rfl rfl rfl rfl, rfl, rfl⟩
        · (conv => whnf); (try (refine ⟨(rfl : (_ : Heap) = _), ?_⟩; (conv => whnf)))
          have eD : doneH (loadH (h, k) e) e = (h, k) := by unfold doneH; rw [hd, hL]; rfl
          rw [eD]
          exact ⟨.inl rfl, ⟨[.junk, .junk, .junk, .junk, .junk, Bo (false), .junk, .junk, .junk, .junk, .junk, .junk, .junk, .junk, .junk, .junk, .junk, .junk, .junk, .junk, .junk, .junk, .junk, .junk, .junk, .junk, .junk, .junk, .junk, .junk, .junk, .junk, .junk, .junk, .junk, .junk, .junk, .junk, .junk, .junk, .junk, .junk, .junk], _⟩, Weak.covD 2 (by (conv => whnf); (repeat (refine ⟨rfl, ?_⟩; (conv => whnf))); exact trivial) rfl rfl rfl rfl rfl, rfl, rfl⟩
    · (conv => whnf); (try (refine ⟨(rfl : (_ : Heap) = _), ?_⟩; (conv => whnf)))
      have hL : loadH (h, k) e = (h, k) := by unfold loadH loadsV; rw [show decide (e.access = 1) = false from hl1]; simp
      refine ⟨fun hd => ?_, fun hd => ?_⟩
      · (conv => whnf); (try (refine ⟨(rfl : (_ : Heap) = _), ?_⟩; (conv => whnf)))
        refine delMapE (id := 0) _ rfl rfl rfl rfl rfl rfl rfl rfl rfl ?_
        have eD : doneH (loadH (h, k) e) e = (delH h e.thread, k) := by unfold doneH; rw [hd, hL]; rfl
        rw [eD]
        (conv => whnf); (try (refine ⟨(rfl : (_ : Heap) = _), ?_⟩; (conv => whnf)))
        exact ⟨.inl rfl, ⟨[.junk, .junk, .junk, .junk, .junk, Bo (false), .junk, .junk, .junk, .junk, .junk, .junk, .junk, .junk, .junk, .junk, .junk, .junk, .junk, .junk, .junk, .junk, .junk, .junk, .junk, .junk, .junk, .junk, .junk, .junk, .junk, .junk, .junk, .junk, .junk, .junk, .junk, .junk, .junk, .junk, .junk, .junk, .junk], _⟩, Weak.covD 2 (by (conv => whnf); (repeat (refine ⟨rfl, ?_⟩; (conv => whnf))); exact trivial) rfl rfl rfl rfl rfl, rfl, rfl⟩
      · (conv => whnf); (try (refine ⟨(rfl : (_ : Heap) = _), ?_⟩; (conv => whnf)))
        have eD : doneH (loadH (h, k) e) e = (h, k) := by unfold doneH; rw [hd, hL]; rfl
        rw [eD]
        exact ⟨.inl rfl, ⟨[.junk, .junk, .junk, .junk, .junk, Bo (false), .junk, .junk, .junk, .junk, .junk, .junk, .junk, .junk, .junk, .junk, .junk, .junk, .junk, .junk, .junk, .junk, .junk, .junk, .junk, .junk, .junk, .junk, .junk, .junk, .junk, .junk, .junk, .junk, .junk, .junk, .junk, .junk, .junk, .junk, .junk, .junk, .junk], _⟩, Weak.covD 2 (by (conv => whnf); (repeat (refine ⟨rfl, ?_⟩; (conv => whnf))); exact trivial) rfl rfl rfl rfl rfl, rfl, rfl⟩
theorem early_sound (l : List Eve) (hl : l.length < 1000000000000) : SoundAt Try.prog 11 [] [lEv l] (I (earlyV l)) [] := by
  refine SoundAt.of_wpA1 (fn := Try.f11) Try.func11 rfl ?_
  conv => whnf
  intro bb
  (conv => whnf); (try (refine ⟨(rfl : (_ : Heap) = _), ?_⟩; (conv => whnf)))
  have h := count2_sound l 26 (earB l) bb 53 (fun i => entB (eE (hasN l i).1)) (fun i => (hasN l i).2) hl (by kernel_rfl) fun i e h => (by
    have := early1_sound i bb e (hasN l i).1 (hasN l i).2 (hasN_ok l i)
    rw [← atE_eq h] at this ⊢
    exact this)
  refine ⟨_, _, h, ?_⟩
  (conv => whnf); (try (refine ⟨(rfl : (_ : Heap) = _), ?_⟩; (conv => whnf)))
  exact ⟨.inl rfl, _, .refl _, rfl⟩
end Go.Saf

/- Layer 28's reference: what is touched, freed twice, freed early. -/
namespace Go.Saf
open Go.Ab Go.Proofs Go.Hy Go.Pla
set_option linter.unusedVariables false
set_option linter.unusedSimpArgs false
set_option maxRecDepth 100000
set_option maxHeartbeats 4000000

def anyN (p : Nat → Bool) : Nat → Bool
  | 0 => false
  | k + 1 => anyN p k || p k
theorem anyN_iff (p : Nat → Bool) : ∀ k, anyN p k = true ↔ ∃ j, j < k ∧ p j = true
  | 0 => by simp [anyN]
  | k + 1 => by
    unfold anyN
    rw [Bool.or_eq_true, anyN_iff p k]
    constructor
    · rintro (⟨j, h1, h2⟩ | h)
      · exact ⟨j, by omega, h2⟩
      · exact ⟨k, by omega, h⟩
    · rintro ⟨j, h1, h2⟩
      by_cases h : j = k
      · subst h; exact .inr h2
      · exact .inl ⟨j, by omega, h2⟩
theorem get_ev {l : List Eve} {k : Nat} (hk : k < l.length) : l[k]? = some (atE l k) ∧ (l.map encEv)[k]? = some (encEv (atE l k)) := by
  have h : l[k]? = some l[k] := List.getElem?_eq_getElem hk
  rw [atE_eq h, List.getElem?_map]
  exact ⟨h, by rw [h]; rfl⟩
theorem cntB_step (b : Nat → Bool) (k : Nat) : cntB b (k + 1) = cntB b k + if b k then 1 else 0 := rfl

theorem rfrees_sound (e : Eve) : SoundAt Try.prog 25 [] [Ce e] (Bo (frV e)) [] := by
  refine SoundAt.of_wpA1 (fn := Try.f25) Try.func25 rfl ?_
  conv => whnf
  refine ⟨fun h1 => ?_, fun h1 => ?_⟩
  · (conv => whnf); (try (refine ⟨(rfl : (_ : Heap) = _), ?_⟩; (conv => whnf)))
    refine ⟨fun h2 => ?_, fun h2 => ?_⟩
    · (conv => whnf); (try (refine ⟨(rfl : (_ : Heap) = _), ?_⟩; (conv => whnf)))
      (exact ⟨.inl rfl, _, .refl _, congrArg (fun b => some (C.v (Value.bool b))) (by unfold frV; simp at h1 h2 ⊢; simp [h1, h2])⟩)
    · (conv => whnf); (try (refine ⟨(rfl : (_ : Heap) = _), ?_⟩; (conv => whnf)))
      (exact ⟨.inl rfl, _, .refl _, congrArg (fun b => some (C.v (Value.bool b))) (by unfold frV; simp at h1 h2 ⊢; simp [h1, h2])⟩)
  · (conv => whnf); (try (refine ⟨(rfl : (_ : Heap) = _), ?_⟩; (conv => whnf)))
    (exact ⟨.inl rfl, _, .refl _, congrArg (fun b => some (C.v (Value.bool b))) (by unfold frV; simp at h1 ⊢; simp [h1])⟩)

theorem rtouches_sound (l : List Eve) (hl : l.length < 1000000000000) : SoundAt Try.prog 8 [] [lEv l] (I (touchV l)) [] := by
  have m1 : (l.map encEv).length = l.length := List.length_map ..
  refine SoundAt.of_wpA1 (fn := Try.f8) Try.func8 rfl ?_
  conv => whnf
  refine Loops.seq l.length (fun k => [lEv l, .junk, I 0, I (cntB (fun i => (atE l i).freed) k : Nat), I k, .junk, .junk, .junk, .junk, .junk, .junk, .junk, .junk, .junk, .junk, .junk, .junk, .junk, .junk]) (fun k => []) (fun _ => True) ?_ trivial (fun k hk _ => ?_) (fun _ => ?_)
  · exact Weak.cov (by (conv => whnf); (repeat (refine ⟨rfl, ?_⟩; (conv => whnf))); exact trivial)
  · have hc := cntB_le (fun i => (atE l i).freed) k
    have hst := cntB_step (fun i => (atE l i).freed) k
    conv => whnf
    rw [m1]
    (refine ⟨fun _ => ?_, fun h => absurd h (by simp; omega)⟩); (conv => whnf); (try (refine ⟨(rfl : (_ : Heap) = _), ?_⟩; (conv => whnf)))
    (refine ⟨by omega, _, (get_ev (hk)).2, ?_⟩); (conv => whnf); (try (refine ⟨(rfl : (_ : Heap) = _), ?_⟩; (conv => whnf)))
    refine ⟨fun h1 => ?_, fun h1 => ?_⟩ <;> rw [h1] at hst <;> (conv => whnf); (try (refine ⟨(rfl : (_ : Heap) = _), ?_⟩; (conv => whnf)))
    · refine .inl ⟨rfl, ?_, trivial⟩
      rw [i64_nat (by omega), i64_nat (by omega), hst]
      exact Weak.covD 0 (by (conv => whnf); (repeat (refine ⟨rfl, ?_⟩; (conv => whnf))); exact trivial) rfl rfl rfl rfl rfl
    · refine .inl ⟨rfl, ?_, trivial⟩
      rw [i64_nat (by omega), hst]
      exact Weak.covD 0 (by (conv => whnf); (repeat (refine ⟨rfl, ?_⟩; (conv => whnf))); exact trivial) rfl rfl rfl rfl rfl
  · conv => whnf
    rw [m1]
    refine ⟨fun h => absurd h (by simp), fun _ => ?_⟩
    (conv => whnf); (try (refine ⟨(rfl : (_ : Heap) = _), ?_⟩; (conv => whnf)))
    refine ⟨by simp, ?_⟩
    conv => whnf
    exact ⟨.inl rfl, _, .refl _, rfl⟩

/-! ### Twice -/
def agV (l : List Eve) (i j : Nat) : Bool := frV (atE l j) && decide ((atE l j).value = (atE l i).value)
def rtwB (l : List Eve) (i : Nat) : Bool := frV (atE l i) && anyN (agV l i) i
def rtwiceV (l : List Eve) : Nat := cntB (rtwB l) l.length
theorem rtwice_sound (l : List Eve) (hl : l.length < 1000000000000) : SoundAt Try.prog 10 [] [lEv l] (I (rtwiceV l)) [] := by
  have m1 : (l.map encEv).length = l.length := List.length_map ..
  refine SoundAt.of_wpA1 (fn := Try.f10) Try.func10 rfl ?_
  conv => whnf
  refine Loops.seq l.length (fun k => [lEv l, .junk, I 0, I (cntB (rtwB l) k : Nat), I k, .junk, .junk, .junk, .junk, .junk, .junk, .junk, .junk, .junk, .junk, .junk, .junk, .junk, .junk, .junk, .junk, .junk, .junk, .junk, .junk, .junk, .junk, .junk, .junk, .junk, .junk, .junk, .junk, .junk, .junk, .junk, .junk, .junk, .junk, .junk, .junk, .junk, .junk, .junk, .junk, .junk, .junk, .junk, .junk, .junk]) (fun k => []) (fun _ => True) ?_ trivial (fun k hk _ => ?_) (fun _ => ?_)
  · exact Weak.cov (by (conv => whnf); (repeat (refine ⟨rfl, ?_⟩; (conv => whnf))); exact trivial)
  · have hc := cntB_le (rtwB l) k
    have hst := cntB_step (rtwB l) k
    conv => whnf
    rw [m1]
    (refine ⟨fun _ => ?_, fun h => absurd h (by simp; omega)⟩); (conv => whnf); (try (refine ⟨(rfl : (_ : Heap) = _), ?_⟩; (conv => whnf)))
    refine Loops.seq k (fun j => [lEv l, .junk, I 0, I (cntB (rtwB l) k : Nat), I k, Bo (anyN (agV l k) j), I j, .junk, .junk, .junk, .junk, .junk, .junk, .junk, .junk, .junk, .junk, .junk, .junk, .junk, .junk, .junk, .junk, .junk, .junk, .junk, .junk, .junk, .junk, .junk, .junk, .junk, .junk, .junk, .junk, .junk, .junk, .junk, .junk, .junk, .junk, .junk, .junk, .junk, .junk, .junk, .junk, .junk, .junk, .junk]) (fun j => []) (fun _ => True) ?_ trivial (fun j hj _ => ?_) (fun _ => ?_)
    · exact Weak.cov (by (conv => whnf); (repeat (refine ⟨rfl, ?_⟩; (conv => whnf))); exact trivial)
    · have han : anyN (agV l k) (j + 1) = (anyN (agV l k) j || agV l k j) := rfl
      conv => whnf
      refine ⟨fun _ => ?_, fun h => absurd h (by simp; omega)⟩
      cases hf : anyN (agV l k) j with
      | true =>
        rw [hf, Bool.true_or] at han
        (conv => whnf); (try (refine ⟨(rfl : (_ : Heap) = _), ?_⟩; (conv => whnf)))
        refine .inl ⟨⟨false, [], [], []⟩, by kernel_rfl, ?_⟩; (conv => whnf)
        refine .inl ⟨rfl, ?_, trivial⟩
        rw [i64_nat (by omega), han]
        exact Weak.covD 0 (by (conv => whnf); (repeat (refine ⟨rfl, ?_⟩; (conv => whnf))); exact trivial) rfl rfl rfl rfl rfl
      | false =>
        rw [hf, Bool.false_or] at han
        (conv => whnf); (try (refine ⟨(rfl : (_ : Heap) = _), ?_⟩; (conv => whnf)))
        refine .inl ⟨⟨false, [], [], []⟩, by kernel_rfl, ?_⟩; (conv => whnf)
        (refine ⟨by omega, _, (get_ev (by omega : j < l.length)).2, ?_⟩); (conv => whnf); (try (refine ⟨(rfl : (_ : Heap) = _), ?_⟩; (conv => whnf)))
        refine ⟨_, _, (rfrees_sound (atE l j)).frame rfl _, ?_⟩; (conv => whnf); (try (refine ⟨(rfl : (_ : Heap) = _), ?_⟩; (conv => whnf)))
        refine ⟨fun h3 => ?_, fun h3 => ?_⟩
        · have hag : agV l k j = decide ((atE l j).value = (atE l k).value) := by unfold agV; rw [h3, Bool.true_and]
          rw [hag] at han
          (conv => whnf); (try (refine ⟨(rfl : (_ : Heap) = _), ?_⟩; (conv => whnf)))
          (refine ⟨by omega, _, (get_ev (by omega : j < l.length)).2, ?_⟩); (conv => whnf); (try (refine ⟨(rfl : (_ : Heap) = _), ?_⟩; (conv => whnf)))
          (refine ⟨by omega, _, (get_ev (hk)).2, ?_⟩); (conv => whnf); (try (refine ⟨(rfl : (_ : Heap) = _), ?_⟩; (conv => whnf)))
          refine ⟨fun h4 => ?_, fun h4 => ?_⟩ <;> (conv => whnf); (try (refine ⟨(rfl : (_ : Heap) = _), ?_⟩; (conv => whnf)))
          · rw [show decide ((atE l j).value = (atE l k).value) = true from by simpa using h4] at han
            refine .inl ⟨rfl, ?_, trivial⟩
            rw [i64_nat (by omega), han]
            exact Weak.covD 0 (by (conv => whnf); (repeat (refine ⟨rfl, ?_⟩; (conv => whnf))); exact trivial) rfl rfl rfl rfl rfl
          · rw [show decide ((atE l j).value = (atE l k).value) = false from by simpa using h4] at han
            refine .inl ⟨rfl, ?_, trivial⟩
            rw [i64_nat (by omega), han]
            exact Weak.covD 0 (by (conv => whnf); (repeat (refine ⟨rfl, ?_⟩; (conv => whnf))); exact trivial) rfl rfl rfl rfl rfl
        · have hag : agV l k j = false := by unfold agV; rw [h3, Bool.false_and]
          rw [hag] at han
          (conv => whnf); (try (refine ⟨(rfl : (_ : Heap) = _), ?_⟩; (conv => whnf)))
          refine .inl ⟨rfl, ?_, trivial⟩
          rw [i64_nat (by omega), han]
          exact Weak.covD 0 (by (conv => whnf); (repeat (refine ⟨rfl, ?_⟩; (conv => whnf))); exact trivial) rfl rfl rfl rfl rfl
    · conv => whnf
      refine ⟨fun h => absurd h (by simp), fun _ => ?_⟩
      (conv => whnf); (try (refine ⟨(rfl : (_ : Heap) = _), ?_⟩; (conv => whnf)))
      refine ⟨by simp, ?_⟩
      (conv => whnf); (try (refine ⟨(rfl : (_ : Heap) = _), ?_⟩; (conv => whnf)))
      (refine ⟨by omega, _, (get_ev (hk)).2, ?_⟩); (conv => whnf); (try (refine ⟨(rfl : (_ : Heap) = _), ?_⟩; (conv => whnf)))
      refine ⟨_, _, (rfrees_sound (atE l k)).frame rfl _, ?_⟩; (conv => whnf); (try (refine ⟨(rfl : (_ : Heap) = _), ?_⟩; (conv => whnf)))
      refine ⟨fun h3 => ?_, fun h3 => ?_⟩
      · cases hf : anyN (agV l k) k with
        | true =>
          have e1 : rtwB l k = true := by unfold rtwB; rw [h3, hf]; rfl
          rw [e1] at hst
          (conv => whnf); (try (refine ⟨(rfl : (_ : Heap) = _), ?_⟩; (conv => whnf)))
          refine .inl ⟨rfl, ?_, trivial⟩
          rw [i64_nat (by omega), i64_nat (by omega), hst]
          exact Weak.covD 0 (by (conv => whnf); (repeat (refine ⟨rfl, ?_⟩; (conv => whnf))); exact trivial) rfl rfl rfl rfl rfl
        | false =>
          have e1 : rtwB l k = false := by unfold rtwB; rw [h3, hf]; rfl
          rw [e1] at hst
          (conv => whnf); (try (refine ⟨(rfl : (_ : Heap) = _), ?_⟩; (conv => whnf)))
          refine .inl ⟨rfl, ?_, trivial⟩
          rw [i64_nat (by omega), hst]
          exact Weak.covD 0 (by (conv => whnf); (repeat (refine ⟨rfl, ?_⟩; (conv => whnf))); exact trivial) rfl rfl rfl rfl rfl
      · have e1 : rtwB l k = false := by unfold rtwB; rw [h3]; rfl
        rw [e1] at hst
        (conv => whnf); (try (refine ⟨(rfl : (_ : Heap) = _), ?_⟩; (conv => whnf)))
        refine .inl ⟨rfl, ?_, trivial⟩
        rw [i64_nat (by omega), hst]
        exact Weak.covD 0 (by (conv => whnf); (repeat (refine ⟨rfl, ?_⟩; (conv => whnf))); exact trivial) rfl rfl rfl rfl rfl
  · conv => whnf
    rw [m1]
    refine ⟨fun h => absurd h (by simp), fun _ => ?_⟩
    (conv => whnf); (try (refine ⟨(rfl : (_ : Heap) = _), ?_⟩; (conv => whnf)))
    refine ⟨by simp, ?_⟩
    conv => whnf
    exact ⟨.inl rfl, _, .refl _, rfl⟩

/-! ### Early -/
def holdS (l : List Eve) (t v : Int) (h : Bool) (k : Nat) : Bool :=
  if (atE l k).thread = t then (if (atE l k).done then false else if loadsV (atE l k) then decide ((atE l k).value = v) else h) else h
def holdN (l : List Eve) (t v : Int) : Nat → Bool
  | 0 => false
  | k + 1 => holdS l t v (holdN l t v k) k
theorem holds_sound (l : List Eve) (t v : Int) (hl : l.length < 1000000000000) : SoundAt Try.prog 27 [] [lEv l, I t, I v] (Bo (holdN l t v l.length)) [] := by
  have m1 : (l.map encEv).length = l.length := List.length_map ..
  refine SoundAt.of_wpA1 (fn := Try.f27) Try.func27 rfl ?_
  conv => whnf
  refine Loops.seq l.length (fun k => [lEv l, I t, I v, .junk, .junk, .junk, Bo false, Bo (holdN l t v k), I k, .junk, .junk, .junk, .junk, .junk, .junk, .junk, .junk, .junk, .junk, .junk, .junk, .junk, .junk, .junk, .junk, .junk, .junk, .junk, .junk, .junk, .junk, .junk, .junk, .junk, .junk, .junk, .junk, .junk, .junk, .junk, .junk, .junk, .junk, .junk, .junk, .junk, .junk, .junk, .junk]) (fun k => []) (fun _ => True) ?_ trivial (fun k hk _ => ?_) (fun _ => ?_)
  · exact Weak.cov (by (conv => whnf); (repeat (refine ⟨rfl, ?_⟩; (conv => whnf))); exact trivial)
  · have hst : holdN l t v (k + 1) = holdS l t v (holdN l t v k) k := rfl
    unfold holdS at hst
    conv => whnf
    rw [m1]
    (refine ⟨fun _ => ?_, fun h => absurd h (by simp; omega)⟩); (conv => whnf); (try (refine ⟨(rfl : (_ : Heap) = _), ?_⟩; (conv => whnf)))
    (refine ⟨by omega, _, (get_ev (hk)).2, ?_⟩); (conv => whnf); (try (refine ⟨(rfl : (_ : Heap) = _), ?_⟩; (conv => whnf)))
    refine ⟨fun h1 => ?_, fun h1 => ?_⟩ <;> (conv => whnf); (try (refine ⟨(rfl : (_ : Heap) = _), ?_⟩; (conv => whnf)))
    · rw [if_neg (by simpa using h1)] at hst
      (refine .inl ⟨rfl, ?_, trivial⟩); rw [i64_nat (by omega), hst]; exact Weak.covD 0 (by (conv => whnf); (repeat (refine ⟨rfl, ?_⟩; (conv => whnf))); exact trivial) rfl rfl rfl rfl rfl
    rw [if_pos (by simpa using h1)] at hst
    (refine ⟨by omega, _, (get_ev (hk)).2, ?_⟩); (conv => whnf); (try (refine ⟨(rfl : (_ : Heap) = _), ?_⟩; (conv => whnf)))
    refine ⟨fun h2 => ?_, fun h2 => ?_⟩ <;> (conv => whnf); (try (refine ⟨(rfl : (_ : Heap) = _), ?_⟩; (conv => whnf)))
    · (refine ⟨by omega, _, (get_ev (hk)).2, ?_⟩); (conv => whnf); (try (refine ⟨(rfl : (_ : Heap) = _), ?_⟩; (conv => whnf)))
      refine ⟨fun h3 => ?_, fun h3 => ?_⟩ <;> (conv => whnf); (try (refine ⟨(rfl : (_ : Heap) = _), ?_⟩; (conv => whnf)))
      · rw [show loadsV (atE l k) = true from by unfold loadsV; simp at h2 h3 ⊢; exact ⟨h2, h3⟩] at hst
        simp only [if_true] at hst
        (refine ⟨by omega, _, (get_ev (hk)).2, ?_⟩); (conv => whnf); (try (refine ⟨(rfl : (_ : Heap) = _), ?_⟩; (conv => whnf)))
        refine ⟨fun h4 => ?_, fun h4 => ?_⟩ <;> (conv => whnf); (try (refine ⟨(rfl : (_ : Heap) = _), ?_⟩; (conv => whnf)))
        · rw [show decide ((atE l k).value = v) = true from by simpa using h4] at hst
          (refine ⟨by omega, _, (get_ev (hk)).2, ?_⟩); (conv => whnf); (try (refine ⟨(rfl : (_ : Heap) = _), ?_⟩; (conv => whnf)))
          refine ⟨fun h5 => ?_, fun h5 => ?_⟩ <;> simp only [h5, if_true, if_false, Bool.false_eq_true] at hst <;> (conv => whnf); (try (refine ⟨(rfl : (_ : Heap) = _), ?_⟩; (conv => whnf)))
          · (refine .inl ⟨rfl, ?_, trivial⟩); rw [i64_nat (by omega), hst]; exact Weak.covD 0 (by (conv => whnf); (repeat (refine ⟨rfl, ?_⟩; (conv => whnf))); exact trivial) rfl rfl rfl rfl rfl
          · (refine .inl ⟨rfl, ?_, trivial⟩); rw [i64_nat (by omega), hst]; exact Weak.covD 0 (by (conv => whnf); (repeat (refine ⟨rfl, ?_⟩; (conv => whnf))); exact trivial) rfl rfl rfl rfl rfl
        · rw [show decide ((atE l k).value = v) = false from by simpa using h4] at hst
          (refine ⟨by omega, _, (get_ev (hk)).2, ?_⟩); (conv => whnf); (try (refine ⟨(rfl : (_ : Heap) = _), ?_⟩; (conv => whnf)))
          refine ⟨fun h5 => ?_, fun h5 => ?_⟩ <;> simp only [h5, if_true, if_false, Bool.false_eq_true] at hst <;> (conv => whnf); (try (refine ⟨(rfl : (_ : Heap) = _), ?_⟩; (conv => whnf)))
          · (refine .inl ⟨rfl, ?_, trivial⟩); rw [i64_nat (by omega), hst]; exact Weak.covD 0 (by (conv => whnf); (repeat (refine ⟨rfl, ?_⟩; (conv => whnf))); exact trivial) rfl rfl rfl rfl rfl
          · (refine .inl ⟨rfl, ?_, trivial⟩); rw [i64_nat (by omega), hst]; exact Weak.covD 0 (by (conv => whnf); (repeat (refine ⟨rfl, ?_⟩; (conv => whnf))); exact trivial) rfl rfl rfl rfl rfl
      · rw [show loadsV (atE l k) = false from by unfold loadsV; simp at h2 h3 ⊢; exact fun _ => h3] at hst
        (refine ⟨by omega, _, (get_ev (hk)).2, ?_⟩); (conv => whnf); (try (refine ⟨(rfl : (_ : Heap) = _), ?_⟩; (conv => whnf)))
        refine ⟨fun h5 => ?_, fun h5 => ?_⟩ <;> simp only [h5, if_true, if_false, Bool.false_eq_true] at hst <;> (conv => whnf); (try (refine ⟨(rfl : (_ : Heap) = _), ?_⟩; (conv => whnf)))
        · (refine .inl ⟨rfl, ?_, trivial⟩); rw [i64_nat (by omega), hst]; exact Weak.covD 0 (by (conv => whnf); (repeat (refine ⟨rfl, ?_⟩; (conv => whnf))); exact trivial) rfl rfl rfl rfl rfl
        · (refine .inl ⟨rfl, ?_, trivial⟩); rw [i64_nat (by omega), hst]; exact Weak.covD 0 (by (conv => whnf); (repeat (refine ⟨rfl, ?_⟩; (conv => whnf))); exact trivial) rfl rfl rfl rfl rfl
    · rw [show loadsV (atE l k) = false from by unfold loadsV; simp at h2 ⊢; exact fun h => absurd h h2] at hst
      (refine ⟨by omega, _, (get_ev (hk)).2, ?_⟩); (conv => whnf); (try (refine ⟨(rfl : (_ : Heap) = _), ?_⟩; (conv => whnf)))
      refine ⟨fun h5 => ?_, fun h5 => ?_⟩ <;> simp only [h5, if_true, if_false, Bool.false_eq_true] at hst <;> (conv => whnf); (try (refine ⟨(rfl : (_ : Heap) = _), ?_⟩; (conv => whnf)))
      · (refine .inl ⟨rfl, ?_, trivial⟩); rw [i64_nat (by omega), hst]; exact Weak.covD 0 (by (conv => whnf); (repeat (refine ⟨rfl, ?_⟩; (conv => whnf))); exact trivial) rfl rfl rfl rfl rfl
      · (refine .inl ⟨rfl, ?_, trivial⟩); rw [i64_nat (by omega), hst]; exact Weak.covD 0 (by (conv => whnf); (repeat (refine ⟨rfl, ?_⟩; (conv => whnf))); exact trivial) rfl rfl rfl rfl rfl
  · conv => whnf
    rw [m1]
    refine ⟨fun h => absurd h (by simp), fun _ => ?_⟩
    (conv => whnf); (try (refine ⟨(rfl : (_ : Heap) = _), ?_⟩; (conv => whnf)))
    refine ⟨by simp, ?_⟩
    conv => whnf
    exact ⟨.inl rfl, _, .refl _, rfl⟩
def reaB (l : List Eve) (i : Nat) : Bool := frV (atE l i) && anyN (fun j => holdN l (atE l j).thread (atE l i).value i) i
def rearlyV (l : List Eve) : Nat := cntB (reaB l) l.length
theorem atE_take (l : List Eve) (i k : Nat) (h : k < i) : atE (l.take i) k = atE l k := by
  unfold atE
  rw [List.getElem?_take, if_pos h]
theorem holdN_take (l : List Eve) (t v : Int) (i : Nat) : ∀ k, k ≤ i → holdN (l.take i) t v k = holdN l t v k
  | 0, _ => rfl
  | k + 1, h => by
    unfold holdN
    rw [holdN_take l t v i k (by omega)]
    unfold holdS
    rw [atE_take l i k (by omega)]
theorem rearly_sound (l : List Eve) (hl : l.length < 1000000000000) : SoundAt Try.prog 12 [] [lEv l] (I (rearlyV l)) [] := by
  have m1 : (l.map encEv).length = l.length := List.length_map ..
  refine SoundAt.of_wpA1 (fn := Try.f12) Try.func12 rfl ?_
  conv => whnf
  refine Loops.seq l.length (fun k => [lEv l, .junk, I 0, I (cntB (reaB l) k : Nat), I k, .junk, .junk, .junk, .junk, .junk, .junk, .junk, .junk, .junk, .junk, .junk, .junk, .junk, .junk, .junk, .junk, .junk, .junk, .junk, .junk, .junk, .junk, .junk, .junk, .junk, .junk, .junk, .junk, .junk, .junk, .junk, .junk, .junk, .junk, .junk, .junk, .junk, .junk, .junk, .junk, .junk]) (fun k => []) (fun _ => True) ?_ trivial (fun k hk _ => ?_) (fun _ => ?_)
  · exact Weak.cov (by (conv => whnf); (repeat (refine ⟨rfl, ?_⟩; (conv => whnf))); exact trivial)
  · have hc := cntB_le (reaB l) k
    have hst := cntB_step (reaB l) k
    conv => whnf
    rw [m1]
    (refine ⟨fun _ => ?_, fun h => absurd h (by simp; omega)⟩); (conv => whnf); (try (refine ⟨(rfl : (_ : Heap) = _), ?_⟩; (conv => whnf)))
    refine Loops.seq k (fun j => [lEv l, .junk, I 0, I (cntB (reaB l) k : Nat), I k, Bo (anyN (fun j => holdN l (atE l j).thread (atE l k).value k) j), I j, .junk, .junk, .junk, .junk, .junk, .junk, .junk, .junk, .junk, .junk, .junk, .junk, .junk, .junk, .junk, .junk, .junk, .junk, .junk, .junk, .junk, .junk, .junk, .junk, .junk, .junk, .junk, .junk, .junk, .junk, .junk, .junk, .junk, .junk, .junk, .junk, .junk, .junk, .junk]) (fun j => []) (fun _ => True) ?_ trivial (fun j hj _ => ?_) (fun _ => ?_)
    · exact Weak.cov (by (conv => whnf); (repeat (refine ⟨rfl, ?_⟩; (conv => whnf))); exact trivial)
    · have han : anyN (fun j => holdN l (atE l j).thread (atE l k).value k) (j + 1) = (anyN (fun j => holdN l (atE l j).thread (atE l k).value k) j || holdN l (atE l j).thread (atE l k).value k) := rfl
      conv => whnf
      refine ⟨fun _ => ?_, fun h => absurd h (by simp; omega)⟩
      cases hf : anyN (fun j => holdN l (atE l j).thread (atE l k).value k) j with
      | true =>
        rw [hf, Bool.true_or] at han
        (conv => whnf); (try (refine ⟨(rfl : (_ : Heap) = _), ?_⟩; (conv => whnf)))
        refine .inl ⟨⟨false, [], [], []⟩, by kernel_rfl, ?_⟩; (conv => whnf)
        (refine .inl ⟨rfl, ?_, trivial⟩); rw [i64_nat (by omega), han]; exact Weak.covD 0 (by (conv => whnf); (repeat (refine ⟨rfl, ?_⟩; (conv => whnf))); exact trivial) rfl rfl rfl rfl rfl
      | false =>
        rw [hf, Bool.false_or] at han
        (conv => whnf); (try (refine ⟨(rfl : (_ : Heap) = _), ?_⟩; (conv => whnf)))
        refine .inl ⟨⟨false, [], [], []⟩, by kernel_rfl, ?_⟩; (conv => whnf)
        refine ⟨.inr rfl, ?_⟩
        (conv => whnf); (try (refine ⟨(rfl : (_ : Heap) = _), ?_⟩; (conv => whnf)))
        refine ⟨by omega, ?_⟩
        (conv => whnf); (try (refine ⟨(rfl : (_ : Heap) = _), ?_⟩; (conv => whnf)))
        refine ⟨by omega, by rw [m1]; simp; omega, ?_⟩
        (conv => whnf); (try (refine ⟨(rfl : (_ : Heap) = _), ?_⟩; (conv => whnf)))
        (refine ⟨by omega, _, (get_ev (by omega : j < l.length)).2, ?_⟩); (conv => whnf); (try (refine ⟨(rfl : (_ : Heap) = _), ?_⟩; (conv => whnf)))
        (refine ⟨by omega, _, (get_ev (hk)).2, ?_⟩); (conv => whnf); (try (refine ⟨(rfl : (_ : Heap) = _), ?_⟩; (conv => whnf)))
        have et : (((l.map encEv).drop 0).take ((k : Int).toNat - 0)) = (l.take k).map encEv := by simp [List.map_take]
        have ho := holds_sound (l.take k) (atE l j).thread (atE l k).value (by simp; omega)
        have el : (l.take k).length = k := by simp; omega
        rw [el, holdN_take l _ _ k k (Nat.le_refl _)] at ho
        rw [et]
        refine ⟨_, _, (ho).frame rfl _, ?_⟩; (conv => whnf); (try (refine ⟨(rfl : (_ : Heap) = _), ?_⟩; (conv => whnf)))
        refine ⟨fun h4 => ?_, fun h4 => ?_⟩ <;> rw [h4] at han
        · (conv => whnf); (try (refine ⟨(rfl : (_ : Heap) = _), ?_⟩; (conv => whnf)))
          (refine .inl ⟨rfl, ?_, trivial⟩); rw [i64_nat (by omega), han]; exact Weak.covD 0 (by (conv => whnf); (repeat (refine ⟨rfl, ?_⟩; (conv => whnf))); exact trivial) rfl rfl rfl rfl rfl
        · (conv => whnf); (try (refine ⟨(rfl : (_ : Heap) = _), ?_⟩; (conv => whnf)))
          (refine .inl ⟨rfl, ?_, trivial⟩); rw [i64_nat (by omega), han]; exact Weak.covD 0 (by (conv => whnf); (repeat (refine ⟨rfl, ?_⟩; (conv => whnf))); exact trivial) rfl rfl rfl rfl rfl
    · conv => whnf
      refine ⟨fun h => absurd h (by simp), fun _ => ?_⟩
      (conv => whnf); (try (refine ⟨(rfl : (_ : Heap) = _), ?_⟩; (conv => whnf)))
      refine ⟨by simp, ?_⟩
      (conv => whnf); (try (refine ⟨(rfl : (_ : Heap) = _), ?_⟩; (conv => whnf)))
      (refine ⟨by omega, _, (get_ev (hk)).2, ?_⟩); (conv => whnf); (try (refine ⟨(rfl : (_ : Heap) = _), ?_⟩; (conv => whnf)))
      refine ⟨_, _, (rfrees_sound (atE l k)).frame rfl _, ?_⟩; (conv => whnf); (try (refine ⟨(rfl : (_ : Heap) = _), ?_⟩; (conv => whnf)))
      refine ⟨fun h3 => ?_, fun h3 => ?_⟩
      · cases hf : anyN (fun j => holdN l (atE l j).thread (atE l k).value k) k with
        | true =>
          have e1 : reaB l k = true := by unfold reaB; rw [h3, hf]; rfl
          rw [e1] at hst
          (conv => whnf); (try (refine ⟨(rfl : (_ : Heap) = _), ?_⟩; (conv => whnf)))
          refine .inl ⟨rfl, ?_, trivial⟩
          rw [i64_nat (by omega), i64_nat (by omega), hst]
          exact Weak.covD 0 (by (conv => whnf); (repeat (refine ⟨rfl, ?_⟩; (conv => whnf))); exact trivial) rfl rfl rfl rfl rfl
        | false =>
          have e1 : reaB l k = false := by unfold reaB; rw [h3, hf]; rfl
          rw [e1] at hst
          (conv => whnf); (try (refine ⟨(rfl : (_ : Heap) = _), ?_⟩; (conv => whnf)))
          (refine .inl ⟨rfl, ?_, trivial⟩); rw [i64_nat (by omega), hst]; exact Weak.covD 0 (by (conv => whnf); (repeat (refine ⟨rfl, ?_⟩; (conv => whnf))); exact trivial) rfl rfl rfl rfl rfl
      · have e1 : reaB l k = false := by unfold reaB; rw [h3]; rfl
        rw [e1] at hst
        (conv => whnf); (try (refine ⟨(rfl : (_ : Heap) = _), ?_⟩; (conv => whnf)))
        (refine .inl ⟨rfl, ?_, trivial⟩); rw [i64_nat (by omega), hst]; exact Weak.covD 0 (by (conv => whnf); (repeat (refine ⟨rfl, ?_⟩; (conv => whnf))); exact trivial) rfl rfl rfl rfl rfl
  · conv => whnf
    rw [m1]
    refine ⟨fun h => absurd h (by simp), fun _ => ?_⟩
    (conv => whnf); (try (refine ⟨(rfl : (_ : Heap) = _), ?_⟩; (conv => whnf)))
    refine ⟨by simp, ?_⟩
    conv => whnf
    exact ⟨.inl rfl, _, .refl _, rfl⟩

/-! ### The same numbers -/
theorem cntB_congr {b b' : Nat → Bool} : ∀ {k : Nat}, (∀ i, i < k → b i = b' i) → cntB b k = cntB b' k
  | 0, _ => rfl
  | k + 1, h => by
    show cntB b k + _ = cntB b' k + _
    rw [cntB_congr fun i hi => h i (by omega), h k (by omega)]
theorem seen_iff (l : List Eve) (v : Int) : ∀ k, v ∈ seenN l k ↔ ∃ j, j < k ∧ frV (atE l j) = true ∧ (atE l j).value = v
  | 0 => by simp [seenN]
  | k + 1 => by
    have ih := seen_iff l v k
    have step : v ∈ seenN l (k + 1) ↔ v ∈ seenN l k ∨ (frV (atE l k) = true ∧ (atE l k).value = v) := by
      show v ∈ (if frV (atE l k) then addB (seenN l k) (atE l k).value else seenN l k) ↔ _
      cases hf : frV (atE l k) with
      | false => simp
      | true =>
        simp only [if_true, true_and]
        unfold addB
        split
        · rename_i hm
          constructor
          · exact .inl
          · rintro (h | h)
            · exact h
            · rw [← h]; exact hm
        · simp [eq_comm]
    rw [step, ih]
    constructor
    · rintro (⟨j, h1, h2⟩ | h)
      · exact ⟨j, by omega, h2⟩
      · exact ⟨k, by omega, h⟩
    · rintro ⟨j, h1, h2⟩
      by_cases h : j = k
      · subst h; exact .inr h2
      · exact .inl ⟨j, by omega, h2⟩
theorem twice_eq (l : List Eve) : twiceV l = rtwiceV l := by
  refine cntB_congr fun i _ => ?_
  unfold twB rtwB
  congr 1
  rw [Bool.eq_iff_iff, decide_eq_true_eq, seen_iff, anyN_iff]
  unfold agV
  simp [Bool.and_eq_true]

/-- What a thread has. -/
def curS (l : List Eve) (t : Int) (c : Option Int) (k : Nat) : Option Int :=
  if (atE l k).thread = t then (if (atE l k).done then none else if loadsV (atE l k) then some (atE l k).value else c) else c
def curN (l : List Eve) (t : Int) : Nat → Option Int
  | 0 => none
  | k + 1 => curS l t (curN l t k) k
theorem hold_cur (l : List Eve) (t v : Int) : ∀ k, holdN l t v k = decide (curN l t k = some v)
  | 0 => by simp [holdN, curN]
  | k + 1 => by
    unfold holdN curN
    rw [hold_cur l t v k]
    unfold holdS curS
    split
    · split
      · simp
      · split
        · simp
        · rfl
    · rfl
theorem cur_thread (l : List Eve) (t v : Int) : ∀ k, curN l t k = some v → ∃ j, j < k ∧ (atE l j).thread = t
  | 0, h => by simp [curN] at h
  | k + 1, h => by
    by_cases ht : (atE l k).thread = t
    · exact ⟨k, by omega, ht⟩
    · unfold curN curS at h
      rw [if_neg ht] at h
      obtain ⟨j, h1, h2⟩ := cur_thread l t v k h
      exact ⟨j, by omega, h2⟩
/-- An entry of a thread. -/
def hasT (h : Hs) (t v : Int) : Prop := ∃ x ∈ h, x.1 = t ∧ x.2.1 = v
theorem key_at {h : Hs} {k : Nat} (ok : OkH h k) {i j : Nat} {x y : Int × Int × Nat} (hi : h[i]? = some x) (hj : h[j]? = some y) (e : x.1 = y.1) : i = j := by
  have hil := (List.getElem?_eq_some_iff.1 hi).1
  have hjl := (List.getElem?_eq_some_iff.1 hj).1
  have hst := List.pairwise_iff_getElem.1 ok.key
  rw [List.getElem?_eq_getElem hil] at hi
  rw [List.getElem?_eq_getElem hjl] at hj
  have hi' := Option.some.inj hi
  have hj' := Option.some.inj hj
  rcases Nat.lt_trichotomy i j with hlt | heq | hlt
  · exact (hst i j (by simpa using hil) (by simpa using hjl) hlt (by simp only [List.getElem_map]; rw [hi', hj']; exact e)).elim
  · exact heq
  · exact (hst j i (by simpa using hjl) (by simpa using hil) hlt (by simp only [List.getElem_map]; rw [hi', hj']; exact e.symm)).elim
theorem has_put {h : Hs} {k : Nat} (ok : OkH h k) (t v t' v' : Int) : hasT (putH h k t v).1 t' v' ↔ if t' = t then v' = v else hasT h t' v' := by
  unfold putH
  cases e : atT h t with
  | some i =>
    obtain ⟨x, hx, hxt⟩ := atT_some e
    dsimp only
    rw [hx]
    dsimp only [Option.getD_some]
    have hil := (List.getElem?_eq_some_iff.1 hx).1
    constructor
    · rintro ⟨y, hy, h1, h2⟩
      obtain ⟨j, hj⟩ := List.mem_iff_getElem?.1 hy
      rw [List.getElem?_set] at hj
      split at hj
      · rename_i hij
        cases hj
        rw [if_pos h1.symm]
        exact h2.symm
      · rename_i hij
        have : t' ≠ t := fun ht => hij (key_at ok hx hj (by rw [hxt, h1, ht]))
        rw [if_neg this]
        exact ⟨y, List.mem_of_getElem? hj, h1, h2⟩
    · intro hh
      split at hh
      · rename_i ht
        subst ht hh
        exact ⟨_, List.mem_iff_getElem?.2 ⟨i, by rw [List.getElem?_set, if_pos rfl, if_pos hil]⟩, rfl, rfl⟩
      · rename_i ht
        obtain ⟨y, hy, h1, h2⟩ := hh
        obtain ⟨j, hj⟩ := List.mem_iff_getElem?.1 hy
        refine ⟨y, List.mem_iff_getElem?.2 ⟨j, ?_⟩, h1, h2⟩
        rw [List.getElem?_set, if_neg]
        · exact hj
        · rintro rfl
          rw [hx] at hj
          cases hj
          exact ht (h1.symm.trans hxt)
  | none =>
    have hno := atT_none e
    dsimp only
    constructor
    · rintro ⟨y, hy, h1, h2⟩
      rcases List.mem_append.1 hy with hy | hy
      · rw [if_neg (fun ht => hno y hy (h1.trans ht))]
        exact ⟨y, hy, h1, h2⟩
      · simp at hy
        subst hy
        rw [if_pos h1.symm]
        exact h2.symm
    · intro hh
      split at hh
      · rename_i ht
        subst ht hh
        exact ⟨(t', v', k), by simp, rfl, rfl⟩
      · obtain ⟨y, hy, h1, h2⟩ := hh
        exact ⟨y, by simp [hy], h1, h2⟩
theorem has_del {h : Hs} {k : Nat} (ok : OkH h k) (t t' v' : Int) : hasT (delH h t) t' v' ↔ t' ≠ t ∧ hasT h t' v' := by
  unfold delH
  cases e : atT h t with
  | some i =>
    obtain ⟨x, hx, hxt⟩ := atT_some e
    dsimp only
    constructor
    · rintro ⟨y, hy, h1, h2⟩
      obtain ⟨j, hj⟩ := List.mem_iff_getElem?.1 hy
      rw [List.getElem?_eraseIdx] at hj
      refine ⟨fun ht => ?_, y, ?_, h1, h2⟩
      · split at hj
        · have := key_at ok hx hj (by rw [hxt, h1, ht])
          omega
        · have := key_at ok hx hj (by rw [hxt, h1, ht])
          omega
      · split at hj <;> exact List.mem_of_getElem? hj
    · rintro ⟨ht, y, hy, h1, h2⟩
      obtain ⟨j, hj⟩ := List.mem_iff_getElem?.1 hy
      have hne : i ≠ j := by
        rintro rfl
        rw [hx] at hj
        cases hj
        exact ht (h1.symm.trans hxt)
      refine ⟨y, ?_, h1, h2⟩
      rcases Nat.lt_or_ge j i with hlt | hge
      · exact List.mem_iff_getElem?.2 ⟨j, by rw [List.getElem?_eraseIdx, if_pos hlt]; exact hj⟩
      · exact List.mem_iff_getElem?.2 ⟨j - 1, by rw [List.getElem?_eraseIdx, if_neg (by omega), show j - 1 + 1 = j from by omega]; exact hj⟩
  | none =>
    have hno := atT_none e
    constructor
    · rintro ⟨y, hy, h1, h2⟩
      exact ⟨fun ht => hno y hy (h1.trans ht), y, hy, h1, h2⟩
    · exact fun hh => hh.2
theorem has_cur (l : List Eve) (t v : Int) : ∀ k, hasT (hasN l k).1 t v ↔ curN l t k = some v
  | 0 => by simp [hasT, hasN, curN]
  | k + 1 => by
    have ih := has_cur l t v k
    have ok := hasN_ok l k
    have ok1 := ok.load (atE l k)
    have e1 : hasT (loadH (hasN l k) (atE l k)).1 t v ↔ if loadsV (atE l k) = true ∧ t = (atE l k).thread then v = (atE l k).value else hasT (hasN l k).1 t v := by
      unfold loadH
      cases hl : loadsV (atE l k) with
      | false => simp
      | true =>
        simp only [if_true, true_and]
        exact has_put ok _ _ _ _
    have e2 : hasT (doneH (loadH (hasN l k) (atE l k)) (atE l k)).1 t v ↔ ((atE l k).done = true → t ≠ (atE l k).thread) ∧ hasT (loadH (hasN l k) (atE l k)).1 t v := by
      unfold doneH
      cases hd : (atE l k).done with
      | false => simp
      | true =>
        simp only [if_true, true_implies]
        exact has_del ok1 _ _ _
    show hasT (doneH (loadH (hasN l k) (atE l k)) (atE l k)).1 t v ↔ curS l t (curN l t k) k = some v
    rw [e2, e1, ih]
    unfold curS
    by_cases ht : (atE l k).thread = t
    · subst ht
      simp only [if_true, ne_eq, not_true, and_true]
      cases (atE l k).done with
      | true => simp
      | false =>
        simp only [Bool.false_eq_true, false_implies, true_and, if_false]
        split
        · simp [eq_comm]
        · rfl
    · rw [if_neg ht]
      have ht' : ¬ t = (atE l k).thread := fun h => ht h.symm
      simp [ht']
theorem early_eq (l : List Eve) : earlyV l = rearlyV l := by
  refine cntB_congr fun i _ => ?_
  unfold earB reaB
  congr 1
  rw [Bool.eq_iff_iff, anyN_iff]
  unfold earH
  rw [List.any_eq_true]
  constructor
  · rintro ⟨x, hx, hv⟩
    have hv : x.2.1 = (atE l i).value := by simpa using hv
    have hc := (has_cur l x.1 x.2.1 i).1 ⟨x, hx, rfl, rfl⟩
    obtain ⟨j, h1, h2⟩ := cur_thread l _ _ i hc
    exact ⟨j, h1, by rw [hold_cur, h2, hc, hv]; simp⟩
  · rintro ⟨j, h1, h2⟩
    rw [hold_cur, decide_eq_true_eq] at h2
    obtain ⟨x, hx, _, h3⟩ := (has_cur l _ _ i).2 h2
    exact ⟨x, hx, by simpa using h3⟩
end Go.Saf

/- Layer 28, plain: which requests are open, by both. -/
namespace Go.Saf
open Go.Ab Go.Proofs Go.Hy Go.Pla
set_option linter.unusedVariables false
set_option linter.unusedSimpArgs false

abbrev Gs := List (Int × List Ans)
def atG (g : Gs) (t : Int) : Option Nat := g.findIdx? fun x => decide (x.1 = t)
def addG (g : Gs) (t : Int) (a : Ans) : Gs := match atG g t with
  | some j => g.set j (t, (((g[j]?).getD (0, [])).2) ++ [a])
  | none => g ++ [(t, [a])]
def endedC (x : Cal) : Bool := !decide (x.to_ < 0)
def atCal (c : List Cal) (k : Nat) : Cal := (c[k]?).getD ⟨0, 0, 0, 0, 0, ⟨0, 0, 0, 0, 0, 0, 0, six0⟩⟩
/-- What is given to each thread by the first so many calls. -/
def gN (c : List Cal) : Nat → Gs
  | 0 => []
  | k + 1 => if endedC (atCal c k) then addG (gN c k) (atCal c k).thread (atCal c k).answer else gN c k
def allN (c : List Cal) : Nat → Bool
  | 0 => true
  | k + 1 => allN c k && endedC (atCal c k)
/-- What is given to a thread. -/
def givenV (c : List Cal) (t : Int) : List Ans := (c.filter fun x => decide (x.thread = t) && endedC x).map (·.answer)
def atAns (g : List Ans) (i : Nat) : Ans := (g[i]?).getD ⟨0, 0, 0, 0, 0, 0, 0, six0⟩
def outT (g : List Ans) : List Ans := (openV g).map (atAns g)

theorem atCal_eq {c : List Cal} {k : Nat} {x : Cal} (h : c[k]? = some x) : atCal c k = x := by unfold atCal; rw [h]; rfl
theorem atG_some {g : Gs} {t : Int} {j : Nat} (h : atG g t = some j) : ∃ x, g[j]? = some x ∧ x.1 = t := by
  obtain ⟨h1, h2, _⟩ := List.findIdx?_eq_some_iff_getElem.1 h
  exact ⟨g[j], List.getElem?_eq_getElem h1, by simpa using h2⟩
theorem atG_none {g : Gs} {t : Int} (h : atG g t = none) : ∀ x ∈ g, x.1 ≠ t := fun x hx => by
  unfold atG at h
  rw [List.findIdx?_eq_none_iff] at h
  simpa using h x hx
/-- Each thread that has an answer stands once, with its answers. -/
structure OkG (c : List Cal) (k : Nat) (g : Gs) : Prop where
  key : (g.map (·.1)).Nodup
  val : ∀ x ∈ g, x.2 = givenV (c.take k) x.1 ∧ x.2 ≠ []
  all : ∀ t, givenV (c.take k) t ≠ [] → ∃ x ∈ g, x.1 = t
theorem given_take (c : List Cal) (k : Nat) (hk : k < c.length) (t : Int) : givenV (c.take (k + 1)) t = givenV (c.take k) t ++ if (atCal c k).thread = t ∧ endedC (atCal c k) = true then [(atCal c k).answer] else [] := by
  have hq : c[k]? = some c[k] := List.getElem?_eq_getElem hk
  rw [atCal_eq hq]
  unfold givenV
  rw [List.take_add_one, hq, List.filter_append, List.map_append]
  congr 1
  by_cases h1 : c[k].thread = t <;> cases h2 : endedC c[k] <;> simp [h1, h2]
theorem key_atG {g : Gs} (hk : (g.map (·.1)).Nodup) {i j : Nat} {x y : Int × List Ans} (hi : g[i]? = some x) (hj : g[j]? = some y) (e : x.1 = y.1) : i = j := by
  have hil := (List.getElem?_eq_some_iff.1 hi).1
  have hjl := (List.getElem?_eq_some_iff.1 hj).1
  have hst := List.pairwise_iff_getElem.1 hk
  rw [List.getElem?_eq_getElem hil] at hi
  rw [List.getElem?_eq_getElem hjl] at hj
  have hi' := Option.some.inj hi
  have hj' := Option.some.inj hj
  rcases Nat.lt_trichotomy i j with hlt | heq | hlt
  · exact (hst i j (by simpa using hil) (by simpa using hjl) hlt (by simp only [List.getElem_map]; rw [hi', hj']; exact e)).elim
  · exact heq
  · exact (hst j i (by simpa using hjl) (by simpa using hil) hlt (by simp only [List.getElem_map]; rw [hi', hj']; exact e.symm)).elim
theorem gN_ok (c : List Cal) : ∀ k, k ≤ c.length → OkG c k (gN c k)
  | 0, _ => ⟨by simp [gN], by simp [gN], fun t h => by simp [givenV] at h⟩
  | k + 1, hk => by
    have ih := gN_ok c k (by omega)
    have hg := given_take c k (by omega)
    unfold gN
    cases he : endedC (atCal c k) with
    | false =>
      have hg' : ∀ t, givenV (c.take (k + 1)) t = givenV (c.take k) t := fun t => by rw [hg t, he]; simp
      exact ⟨ih.key, fun x hx => by rw [hg']; exact ih.val x hx, fun t ht => ih.all t (by rw [← hg']; exact ht)⟩
    | true =>
      simp only [if_true]
      rw [he] at hg
      simp only [and_true] at hg
      unfold addG
      cases hat : atG (gN c k) (atCal c k).thread with
      | some j =>
        obtain ⟨x, hx, hxt⟩ := atG_some hat
        dsimp only
        rw [hx]
        dsimp only [Option.getD_some]
        have hxm := List.mem_of_getElem? hx
        refine ⟨by rw [set_map_same (y := ((atCal c k).thread, x.2 ++ [(atCal c k).answer])) (·.1) hx hxt.symm]; exact ih.key, fun y hy => ?_, fun t ht => ?_⟩
        · obtain ⟨i, hi⟩ := List.mem_iff_getElem?.1 hy
          rw [List.getElem?_set] at hi
          split at hi
          · rename_i hij
            subst hij
            split at hi
            · cases hi
              dsimp only
              rw [hg, if_pos rfl, ← hxt, (ih.val x hxm).1, hxt]
              exact ⟨rfl, by simp⟩
            · cases hi
          · rename_i hij
            have hne : (atCal c k).thread ≠ y.1 := fun e => hij (key_atG ih.key hx hi (hxt.trans e))
            rw [hg, if_neg hne, List.append_nil]
            exact ih.val y (List.mem_of_getElem? hi)
        · by_cases e : (atCal c k).thread = t
          · exact ⟨_, List.mem_iff_getElem?.2 ⟨j, by rw [List.getElem?_set, if_pos rfl, if_pos (List.getElem?_eq_some_iff.1 hx).1]⟩, e⟩
          · rw [hg, if_neg e, List.append_nil] at ht
            obtain ⟨y, hy, hyt⟩ := ih.all t ht
            obtain ⟨i, hi⟩ := List.mem_iff_getElem?.1 hy
            refine ⟨y, List.mem_iff_getElem?.2 ⟨i, ?_⟩, hyt⟩
            rw [List.getElem?_set, if_neg]
            · exact hi
            · rintro rfl
              rw [hx] at hi
              cases hi
              exact e (hxt.symm.trans hyt)
      | none =>
        have hno := atG_none hat
        dsimp only
        refine ⟨?_, fun y hy => ?_, fun t ht => ?_⟩
        · rw [List.map_append, List.nodup_append]
          refine ⟨ih.key, by simp, ?_⟩
          intro a ha b hb
          simp at hb
          subst hb
          obtain ⟨x, hx, rfl⟩ := List.mem_map.1 ha
          exact hno x hx
        · rcases List.mem_append.1 hy with hy | hy
          · rw [hg, if_neg (fun e => hno y hy e.symm), List.append_nil]
            exact ih.val y hy
          · simp at hy
            subst hy
            dsimp only
            have : givenV (c.take k) (atCal c k).thread = [] := by
              cases hgv : givenV (c.take k) (atCal c k).thread with
              | nil => rfl
              | cons a rest =>
                obtain ⟨x, hx, hxt⟩ := ih.all (atCal c k).thread (by rw [hgv]; simp)
                exact absurd hxt (hno x hx)
            rw [hg, if_pos rfl, this]
            exact ⟨rfl, by simp⟩
        · by_cases e : (atCal c k).thread = t
          · exact ⟨((atCal c k).thread, [(atCal c k).answer]), by simp, e⟩
          · rw [hg, if_neg e, List.append_nil] at ht
            obtain ⟨y, hy, hyt⟩ := ih.all t ht
            exact ⟨y, by simp [hy], hyt⟩

/-! ### The threads, in order -/
theorem flat_sorted {β : Type} (f : Int → List β) : ∀ (A B : List Int), A.Pairwise (· < ·) → B.Pairwise (· < ·) → (∀ x ∈ A, x ∈ B) → (∀ x ∈ B, x ∉ A → f x = []) → A.flatMap f = B.flatMap f
  | [], B, _, _, _, h => by
    rw [List.flatMap_nil]
    symm
    rw [List.flatMap_eq_nil_iff]
    exact fun x hx => h x hx (by simp)
  | a :: A, [], _, _, hs, _ => by have := hs a (by simp); simp at this
  | a :: A, b :: B, hA, hB, hs, hz => by
    have hA' := List.pairwise_cons.1 hA
    have hB' := List.pairwise_cons.1 hB
    by_cases e : a = b
    · subst e
      rw [List.flatMap_cons, List.flatMap_cons]
      congr 1
      refine flat_sorted f A B hA'.2 hB'.2 (fun x hx => ?_) (fun x hx hn => hz x (by simp [hx]) ?_)
      · rcases List.mem_cons.1 (hs x (by simp [hx])) with h | h
        · have := hA'.1 x hx; omega
        · exact h
      · intro hm
        rcases List.mem_cons.1 hm with h | h
        · have := hB'.1 x hx; omega
        · exact hn h
    · have haB : a ∈ B := by
        rcases List.mem_cons.1 (hs a (by simp)) with h | h
        · exact absurd h e
        · exact h
      have hb : b ∉ a :: A := by
        intro hm
        have h1 := hB'.1 a haB
        rcases List.mem_cons.1 hm with h | h
        · omega
        · have := hA'.1 b h; omega
      rw [show (b :: B).flatMap f = f b ++ B.flatMap f from List.flatMap_cons, hz b (by simp) hb, List.nil_append]
      refine flat_sorted f (a :: A) B hA hB'.2 (fun x hx => ?_) (fun x hx hn => hz x (by simp [hx]) hn)
      rcases List.mem_cons.1 (hs x hx) with h | h
      · exact absurd (h ▸ hx) hb
      · exact h
termination_by A B => A.length + B.length

/-- The least thread that is more than so much (or whichever). -/
def lstV (c : List Cal) (more : Int) (first : Bool) : Nat → Option Int
  | 0 => none
  | k + 1 => let t := (atCal c k).thread
    if (first || decide (more < t)) && (match lstV c more first k with | none => true | some b => decide (t < b)) then some t else lstV c more first k
theorem lst_spec (c : List Cal) (more : Int) (first : Bool) : ∀ k, match lstV c more first k with
    | none => ∀ j, j < k → ¬ (first = true ∨ more < (atCal c j).thread)
    | some b => (first = true ∨ more < b) ∧ (∃ j, j < k ∧ (atCal c j).thread = b) ∧ ∀ j, j < k → (first = true ∨ more < (atCal c j).thread) → b ≤ (atCal c j).thread
  | 0 => by simp [lstV]
  | k + 1 => by
    have ih := lst_spec c more first k
    unfold lstV
    dsimp only
    by_cases hf : (first = true ∨ more < (atCal c k).thread)
    · have hf' : (first || decide (more < (atCal c k).thread)) = true := by simpa using hf
      rw [hf', Bool.true_and]
      cases hb : lstV c more first k with
      | none =>
        rw [hb] at ih
        dsimp only at ih ⊢
        rw [if_pos rfl]
        dsimp only
        refine ⟨hf, ⟨k, by omega, rfl⟩, fun j hj hjf => ?_⟩
        by_cases e : j = k
        · rw [e]; exact Int.le_refl _
        · exact absurd hjf (ih j (by omega))
      | some b =>
        rw [hb] at ih
        dsimp only at ih ⊢
        obtain ⟨h1, ⟨j0, h2, h3⟩, h4⟩ := ih
        by_cases hlt : (atCal c k).thread < b
        · rw [if_pos (by simpa using hlt)]
          dsimp only
          refine ⟨hf, ⟨k, by omega, rfl⟩, fun j hj hjf => ?_⟩
          by_cases e : j = k
          · rw [e]; exact Int.le_refl _
          · have := h4 j (by omega) hjf; omega
        · rw [if_neg (by simpa using hlt)]
          dsimp only
          refine ⟨h1, ⟨j0, by omega, h3⟩, fun j hj hjf => ?_⟩
          by_cases e : j = k
          · rw [e]; omega
          · exact h4 j (by omega) hjf
    · have hf' : (first || decide (more < (atCal c k).thread)) = false := by
        rw [Bool.eq_false_iff]
        simpa using hf
      rw [hf', Bool.false_and]
      simp only [Bool.false_eq_true, if_false]
      cases hb : lstV c more first k with
      | none =>
        rw [hb] at ih
        dsimp only at ih ⊢
        intro j hj
        by_cases e : j = k
        · rw [e]; exact hf
        · exact ih j (by omega)
      | some b =>
        rw [hb] at ih
        dsimp only at ih ⊢
        obtain ⟨h1, ⟨j0, h2, h3⟩, h4⟩ := ih
        refine ⟨h1, ⟨j0, by omega, h3⟩, fun j hj hjf => ?_⟩
        by_cases e : j = k
        · rw [e] at hjf; exact absurd hjf hf
        · exact h4 j (by omega) hjf
def cntGt (c : List Cal) (t : Int) : Nat := ((List.range c.length).filter fun j => decide (t < (atCal c j).thread)).length
theorem cnt_less {c : List Cal} {t t' : Int} (h : lstV c t false c.length = some t') : cntGt c t' < cntGt c t := by
  have hs := lst_spec c t false c.length
  rw [h] at hs
  dsimp only at hs
  obtain ⟨h1, ⟨j, h2, h3⟩, _⟩ := hs
  have h1 : t < t' := by simpa using h1
  have e : ((List.range c.length).filter fun j => decide (t' < (atCal c j).thread)) = ((List.range c.length).filter fun j => decide (t < (atCal c j).thread)).filter fun j => decide (t' < (atCal c j).thread) := by
    rw [List.filter_filter]
    refine List.filter_congr fun i _ => ?_
    rw [Bool.eq_iff_iff]
    simp only [Bool.and_eq_true, decide_eq_true_eq]
    constructor
    · intro h; exact ⟨h, by omega⟩
    · exact fun h => h.1
  unfold cntGt
  rw [e]
  refine List.length_filter_lt_length_iff_exists.2 ⟨j, ?_, by simp; omega⟩
  rw [List.mem_filter]
  exact ⟨List.mem_range.2 h2, by simp; omega⟩
def tailV (c : List Cal) (t : Int) : List Int := match h : lstV c t false c.length with
  | none => []
  | some t' => t' :: tailV c t'
termination_by cntGt c t
decreasing_by exact cnt_less h
def thrV (c : List Cal) : List Int := match lstV c 0 true c.length with
  | none => []
  | some t => t :: tailV c t
theorem tail_none {c : List Cal} {t : Int} (h : lstV c t false c.length = none) : tailV c t = [] := by
  rw [tailV]
  split
  · rfl
  · rename_i h'; rw [h] at h'; cases h'
theorem tail_some {c : List Cal} {t t' : Int} (h : lstV c t false c.length = some t') : tailV c t = t' :: tailV c t' := by
  rw [tailV]
  split
  · rename_i h'; rw [h] at h'; cases h'
  · rename_i h'; rw [h] at h'; cases h'; rfl
theorem tail_spec (c : List Cal) (t : Int) : (tailV c t).Pairwise (· < ·) ∧ ∀ x, x ∈ tailV c t ↔ t < x ∧ ∃ j, j < c.length ∧ (atCal c j).thread = x := by
  generalize hn : cntGt c t = n
  induction n using Nat.strongRecOn generalizing t with
  | _ n ih =>
    have hs := lst_spec c t false c.length
    cases h : lstV c t false c.length with
    | none =>
      rw [h] at hs
      rw [tail_none h]
      refine ⟨.nil, fun x => ⟨fun hx => by simp at hx, ?_⟩⟩
      rintro ⟨h1, j, h2, h3⟩
      exact absurd (.inr (by rw [h3]; exact h1)) (hs j h2)
    | some t' =>
      rw [h] at hs
      dsimp only at hs
      obtain ⟨h1, ⟨j0, h2, h3⟩, h4⟩ := hs
      have h1 : t < t' := by simpa using h1
      obtain ⟨i1, i2⟩ := ih _ (by rw [← hn]; exact cnt_less h) t' rfl
      rw [tail_some h]
      refine ⟨List.pairwise_cons.2 ⟨fun x hx => ((i2 x).1 hx).1, i1⟩, fun x => ?_⟩
      rw [List.mem_cons, i2 x]
      constructor
      · rintro (rfl | ⟨h5, h6⟩)
        · exact ⟨h1, j0, h2, h3⟩
        · exact ⟨by omega, h6⟩
      · rintro ⟨h5, j, h6, h7⟩
        have := h4 j h6 (.inr (by rw [h7]; exact h5))
        rw [h7] at this
        by_cases e : x = t'
        · exact .inl e
        · exact .inr ⟨by omega, j, h6, h7⟩
theorem thr_spec (c : List Cal) : (thrV c).Pairwise (· < ·) ∧ ∀ x, x ∈ thrV c ↔ ∃ j, j < c.length ∧ (atCal c j).thread = x := by
  have hs := lst_spec c 0 true c.length
  unfold thrV
  cases h : lstV c 0 true c.length with
  | none =>
    rw [h] at hs
    refine ⟨.nil, fun x => ⟨fun hx => by simp at hx, ?_⟩⟩
    rintro ⟨j, h2, h3⟩
    exact absurd (.inl rfl) (hs j h2)
  | some t' =>
    rw [h] at hs
    dsimp only at hs
    obtain ⟨_, ⟨j0, h2, h3⟩, h4⟩ := hs
    obtain ⟨i1, i2⟩ := tail_spec c t'
    dsimp only
    refine ⟨List.pairwise_cons.2 ⟨fun x hx => ((i2 x).1 hx).1, i1⟩, fun x => ?_⟩
    rw [List.mem_cons, i2 x]
    constructor
    · rintro (rfl | ⟨_, h6⟩)
      · exact ⟨j0, h2, h3⟩
      · exact h6
    · rintro ⟨j, h6, h7⟩
      have := h4 j h6 (.inl rfl)
      rw [h7] at this
      by_cases e : x = t'
      · exact .inl e
      · exact .inr ⟨by omega, j, h6, h7⟩

/-- What the program hands back, and what the document. -/
def keysV (c : List Cal) : List Int := ((gN c c.length).map (·.1)).mergeSort fun x y => decide (x ≤ y)
def openP (c : List Cal) : List Ans := (keysV c).flatMap fun t => outT (givenV c t)
def openR (c : List Cal) : List Ans := (thrV c).flatMap fun t => outT (givenV c t)
theorem keys_sorted (c : List Cal) : (keysV c).Pairwise (· < ·) := by
  have hk := (gN_ok c c.length (Nat.le_refl _)).key
  have h1 : (keysV c).Pairwise fun x y => (decide (x ≤ y)) = true := List.pairwise_mergeSort (by intro a b d; simp; omega) (by intro a b; simp; omega) _
  have h2 : (keysV c).Nodup := (List.mergeSort_perm _ _).nodup_iff.2 hk
  exact (h1.and h2).imp fun {a b} ⟨h3, h4⟩ => by have : a ≤ b := by simpa using h3
                                                 omega
theorem keys_mem (c : List Cal) (t : Int) : t ∈ keysV c ↔ givenV c t ≠ [] := by
  have ok := gN_ok c c.length (Nat.le_refl _)
  unfold keysV
  rw [(List.mergeSort_perm _ _).mem_iff, List.mem_map]
  constructor
  · rintro ⟨x, hx, rfl⟩
    have := ok.val x hx
    rw [List.take_length] at this
    rw [← this.1]
    exact this.2
  · intro h
    obtain ⟨x, hx, h2⟩ := ok.all t (by rw [List.take_length]; exact h)
    exact ⟨x, hx, h2⟩
theorem open_eq (c : List Cal) : openP c = openR c := by
  refine flat_sorted _ _ _ (keys_sorted c) (thr_spec c).1 (fun t ht => ?_) (fun t _ hn => ?_)
  · rw [keys_mem] at ht
    rw [(thr_spec c).2]
    unfold givenV at ht
    have : (c.filter fun x => decide (x.thread = t) && endedC x) ≠ [] := fun e => ht (by rw [e]; rfl)
    obtain ⟨x, hx⟩ := List.exists_mem_of_ne_nil _ this
    rw [List.mem_filter] at hx
    obtain ⟨j, hj⟩ := List.mem_iff_getElem?.1 hx.1
    refine ⟨j, (List.getElem?_eq_some_iff.1 hj).1, ?_⟩
    rw [atCal_eq hj]
    have := hx.2
    simp only [Bool.and_eq_true, decide_eq_true_eq] at this
    exact this.1
  · rw [keys_mem] at hn
    have : givenV c t = [] := by simpa using hn
    rw [this]
    rfl
end Go.Saf

