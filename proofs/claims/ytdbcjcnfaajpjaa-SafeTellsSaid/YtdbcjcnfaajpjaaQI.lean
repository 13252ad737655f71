/- Joined: SafE SafF SafG SafH SafI SafJ. -/
import Derived.Test.YtdbcjcnfaajpjaaQH
import Derived.Test.YtdbcjcnfaajpjaaQG
import Derived.Test.YtdbcjcnfaajpjaaQD
import Derived.Test.YtdbcjcnfaajpjaaShf
/- Layer 28: which requests are open: the program's calls by threads. -/
namespace Go.Saf
open Go.Ab Go.Proofs Go.Hy Go.Pla
set_option linter.unusedVariables false
set_option linter.unusedSimpArgs false
set_option maxRecDepth 100000
set_option maxHeartbeats 4000000

/-! ### Sorting -/
def sortV (l : List Int) : List Int := l.mergeSort fun x y => decide (x ≤ y)
theorem sort_len (l : List Int) : (sortV l).length = l.length := List.length_mergeSort l
theorem sort_sound (l : List Int) (hl : l.length < 4611686018427387904) : SoundAt Try.prog 15 [⟨2, 3, 1, l.map rowI, 0⟩] [.sl 0 [] 1 0 l.length false] (.tup []) [⟨2, 3, 1, (sortV l).map rowI, 0⟩] :=
  SoundAt.ofRow (xs := []) (zs := l) (zs' := sortV l) (sort_len l) (by simp) fun b cap w hH hb hcap => by
    refine (Try.slices_Sort_int b 0 cap l w hH hb hl).mono ?_
    rintro e w' ⟨rfl, n, os, rfl⟩
    exact ⟨_, rfl, fun E _ _ _ _ => .tup _ _ rfl (by simp), n, os, rfl⟩
theorem sort0_sound : SoundAt Try.prog 15 [] [.lst 1 0 []] (.tup []) [] := fun w E vs hh hl => by
  obtain ⟨v, hv, hl0⟩ := hl.get (i := 0) rfl
  obtain ⟨a, rfl⟩ : ∃ a, v = .slice a 0 0 := by
    generalize hc : C.lst 1 0 [] = c at hl0
    cases hl0 with
    | lst o sz rows b off cap us ho hcp hsz hst hL =>
      cases hc
      rcases ho with h | ⟨_, h⟩
      · cases h
      · rw [h]; exact ⟨_, rfl⟩
    | lnil o sz ho a => cases hc; exact ⟨a, rfl⟩
    | _ => cases hc
  have hvs : vs = #[.slice a 0 0] := by
    apply Array.ext'
    have h1 : vs.toList.length = 1 := by rw [← hl.1]; rfl
    match hvl : vs.toList, h1 with
    | [x], _ => rw [hvl] at hv; simp at hv; rw [hv]
  rw [hvs]
  refine (Try.slices_Sort_int_none a 0 w).mono ?_
  rintro e w' ⟨rfl, rfl⟩
  exact ⟨_, E, rfl, hh, .tup _ _ rfl (by simp), .refl _ _ _⟩

/-! ### The heap behind so many calls: the map, and behind it for each thread the array of threads and its answers -/
abbrev rowsA (l : List Ans) : List (List C) := l.map encA
def cellsG (g : Gs) : List C := g.mapIdx fun j x => .gl (2 * j + 2) 13 (rowsA x.2)
def thrC (g : Gs) : C := if g = [] then .lst 1 0 [] else .sl (2 * g.length - 1) [] 1 0 g.length false
structure OkE (g : Gs) (es : List Ent) : Prop where
  len : es.length = g.length
  at_ : ∀ (j : Nat) x, g[j]? = some x → ∃ v, es[j]? = some (x.1, v, j)
structure Tail (g : Gs) (X : Heap) : Prop where
  len : X.length = 2 * g.length
  row : ∀ (j : Nat) x, g[j]? = some x → X[2 * j + 1]? = some ⟨4, 39, 13, rowsA x.2, 0⟩
  arr : g ≠ [] → X[2 * g.length - 2]? = some ⟨2, 3, 1, (g.map (·.1)).map rowI, 0⟩
  flat : flatH X = true
  low : ∀ n, rowsLow n X = true
theorem OkE.find {g : Gs} {es : List Ent} (h : OkE g es) (t : Int) : findB es t = atG g t := by
  unfold findB atG
  have e : es.map (·.1) = g.map (·.1) := by
    apply List.ext_getElem?
    intro j
    rw [List.getElem?_map, List.getElem?_map]
    cases hx : g[j]? with
    | none =>
      have : es[j]? = none := by rw [List.getElem?_eq_none_iff] at hx ⊢; rw [h.len]; exact hx
      rw [this]; rfl
    | some x => obtain ⟨v, hv⟩ := h.at_ j x hx; rw [hv]; rfl
  have k : ∀ {α : Type} (l : List (Int × α)), l.findIdx? (fun x => decide (x.1 = t)) = (l.map (·.1)).findIdx? fun y => decide (y = t) := fun l => by rw [List.findIdx?_map]; rfl
  rw [k, k, e]
theorem encCal_shut (x : Cal) : ∀ c ∈ encCal x, shutC c = true ∧ noOwn c = true := by
  intro c hc
  simp [encCal, encA, encX] at hc
  rcases hc with h | h | h | h | h | h | h | h | h | h | h | h | h | h | h | h | h | h <;> (subst h; exact ⟨rfl, rfl⟩)
theorem thr_low (g : Gs) : lowOf (2 * g.length + 1) 9 (thrC g) = thrC g := by
  unfold thrC
  split
  · rfl
  · show (if Nat.blt (2 * g.length - 1) (2 * g.length + 1) then _ else _) = _
    rw [if_pos]
    rw [Nat.blt_eq]
    omega
theorem rows_cons {n : Nat} {x : Ob} {H : Heap} (h1 : rowsLow n [x] = true) (h2 : rowsLow n H = true) : rowsLow n (x :: H) = true := by
  unfold rowsLow at *
  simp only [List.all_cons, List.all_nil, Bool.and_true] at *
  rw [h1, h2]; rfl
theorem map_low (g : Gs) (b : Nat) (es : List Ent) : rowsLow (2 * g.length + 1) [obC b es g.length (cellsG g)] = true := by
  unfold rowsLow
  simp only [List.all_cons, List.all_nil, Bool.and_true]
  have : ((cellsG g).all (lowC (2 * g.length + 1) 9)) = true := by
    refine List.all_eq_true.2 fun c hc => ?_
    unfold cellsG at hc
    rw [List.mem_mapIdx] at hc
    obtain ⟨j, hj, rfl⟩ := hc
    simp [lowC]
    omega
  rw [this]
  rfl
abbrev rowO (a : List Ans) : Ob := ⟨4, 39, 13, rowsA a, 0⟩
abbrev arrO (l : List Int) : Ob := ⟨2, 3, 1, l.map rowI, 0⟩
theorem cells_len (g : Gs) : (cellsG g).length = g.length := by unfold cellsG; rw [List.length_mapIdx]
theorem cells_set (g : Gs) (j : Nat) (t : Int) (a : List Ans) (hj : j < g.length) : cellsG (g.set j (t, a)) = (cellsG g).set j (.gl (2 * j + 2) 13 (rowsA a)) := by
  apply List.ext_getElem?
  intro i
  unfold cellsG
  rw [List.getElem?_mapIdx, List.getElem?_set, List.getElem?_set, List.getElem?_mapIdx]
  split
  · rename_i e
    subst e
    simp [hj]
  · rfl
theorem OkE.set {g : Gs} {es : List Ent} (h : OkE g es) {j : Nat} (hj : j < g.length) (t : Int) (a : List Ans) (v : Value) : OkE (g.set j (t, a)) (es.set j (t, v, j)) := by
  refine ⟨by rw [List.length_set, List.length_set, h.len], fun i y hy => ?_⟩
  rw [List.getElem?_set] at hy ⊢
  split at hy
  · rename_i e
    subst e
    try rw [if_pos hj] at hy
    cases hy
    exact ⟨v, by rw [if_pos rfl, if_pos (by rw [h.len]; exact hj)]⟩
  · rename_i e
    obtain ⟨w, hw⟩ := h.at_ i y hy
    exact ⟨w, by rw [if_neg e]; exact hw⟩
theorem flat_set {X : Heap} (h : flatH X = true) (i : Nat) {o : Ob} (ho : flatH [o] = true) : flatH (X.set i o) = true := by
  unfold flatH at *
  rw [List.all_eq_true] at *
  intro x hx
  rcases List.mem_or_eq_of_mem_set hx with h1 | rfl
  · exact h x h1
  · exact ho x (by simp)
theorem low_set {X : Heap} {n : Nat} (h : rowsLow n X = true) (i : Nat) {o : Ob} (ho : rowsLow n [o] = true) : rowsLow n (X.set i o) = true := by
  unfold rowsLow at *
  rw [List.all_eq_true] at *
  intro x hx
  rcases List.mem_or_eq_of_mem_set hx with h1 | rfl
  · exact h x h1
  · exact ho x (by simp)
theorem Tail.set {g : Gs} {X : Heap} (h : Tail g X) {j : Nat} {y : Int × List Ans} (hy : g[j]? = some y) (a : List Ans) : Tail (g.set j (y.1, a)) (X.set (2 * j + 1) (rowO a)) := by
  have hj := (List.getElem?_eq_some_iff.1 hy).1
  have hne : g ≠ [] := by rintro rfl; simp at hj
  refine ⟨by rw [List.length_set, List.length_set, h.len], fun i x hx => ?_, fun _ => ?_, flat_set h.flat _ rfl, fun n => low_set (h.low n) _ rfl⟩
  · rw [List.getElem?_set] at hx ⊢
    split at hx
    · rename_i e
      subst e
      try rw [if_pos hj] at hx
      cases hx
      rw [if_pos rfl, if_pos (by rw [h.len]; omega)]
    · rename_i e
      rw [if_neg (by omega)]
      exact h.row i x hx
  · rw [List.length_set, List.getElem?_set, if_neg (by omega), set_map_same (y := (y.1, a)) (·.1) hy rfl]
    exact h.arr hne
theorem thr_set (g : Gs) (j : Nat) (x : Int × List Ans) : thrC (g.set j x) = thrC g := by
  unfold thrC
  rw [List.length_set]
  simp only [List.set_eq_nil_iff]
theorem cells_push (g : Gs) (t : Int) (a : List Ans) : cellsG (g ++ [(t, a)]) = cellsG g ++ [.gl (2 * g.length + 2) 13 (rowsA a)] := by
  unfold cellsG
  rw [List.mapIdx_append]
  simp
theorem OkE.push {g : Gs} {es : List Ent} (h : OkE g es) (t : Int) (a : List Ans) (v : Value) : OkE (g ++ [(t, a)]) (es ++ [(t, v, g.length)]) := by
  refine ⟨by simp [h.len], fun i y hy => ?_⟩
  rw [List.getElem?_append] at hy ⊢
  rw [h.len]
  split at hy
  · rename_i e
    rw [if_pos e]
    exact h.at_ i y hy
  · rename_i e
    rw [if_neg e]
    cases hi : i - g.length with
    | zero =>
      rw [hi] at hy
      cases hy
      exact ⟨v, by rw [show i = g.length from by omega]; rfl⟩
    | succ m => rw [hi] at hy; cases hy
theorem flat_app {X Y : Heap} (h : flatH X = true) (h2 : flatH Y = true) : flatH (X ++ Y) = true := by
  unfold flatH at *
  rw [List.all_append, h, h2]; rfl
theorem low_app {X Y : Heap} {n : Nat} (h : rowsLow n X = true) (h2 : rowsLow n Y = true) : rowsLow n (X ++ Y) = true := by
  unfold rowsLow at *
  rw [List.all_append, h, h2]; rfl
/-- What stands behind the map, when a thread comes that was not there. -/
theorem Tail.push {g : Gs} {X Y : Heap} (h : Tail g X) (hY : Y.length = X.length) (hrow : ∀ i, i ≠ 2 * g.length - 2 → Y[i]? = X[i]?) (hfl : flatH Y = true) (hlo : ∀ n, rowsLow n Y = true) (t : Int) (a : List Ans) :
    Tail (g ++ [(t, a)]) (Y ++ [arrO ((g ++ [(t, a)]).map (·.1)), rowO a]) := by
  have hl := h.len
  have hfa : flatH [arrO ((g ++ [(t, a)]).map (·.1)), rowO a] = true := rfl
  refine ⟨by simp [hY, h.len]; omega, fun i x hx => ?_, fun _ => ?_, flat_app hfl hfa, fun n => low_app (hlo n) rfl⟩
  · rw [List.getElem?_append] at hx
    split at hx
    · rename_i e
      rw [List.getElem?_append_left (by omega), hrow _ (by omega)]
      exact h.row i x hx
    · rename_i e
      have hi : i = g.length := by
        cases hi : i - g.length with
        | zero => omega
        | succ m => rw [hi] at hx; cases hx
      subst hi
      rw [Nat.sub_self] at hx
      cases hx
      rw [List.getElem?_append_right (by omega), show 2 * g.length + 1 - Y.length = 1 from by omega]
      rfl
  · rw [List.length_append, List.length_singleton, List.getElem?_append_right (by omega), show 2 * (g.length + 1) - 2 - Y.length = 0 from by omega]
    rfl
theorem given_le (c : List Cal) (t : Int) : (givenV c t).length ≤ c.length := by
  unfold givenV
  rw [List.length_map]
  exact List.length_filter_le _ _
theorem rows_int (n : Nat) (l : List Int) : rowsLow n [⟨0, 3, 1, l.map rowI, 0⟩] = true := by
  unfold rowsLow
  simp only [List.all_cons, List.all_nil, Bool.and_true]
  have : ((l.map rowI).all fun r => r.all (lowC n 9)) = true := List.all_eq_true.2 fun r hr => by obtain ⟨z, _, rfl⟩ := List.mem_map.1 hr; rfl
  rw [this]
  rfl
theorem own_int (l : List Int) : (l.map rowI).all (·.all noOwn) = true := List.all_eq_true.2 fun r hr => by obtain ⟨z, _, rfl⟩ := List.mem_map.1 hr; rfl
theorem gN_len (c : List Cal) : ∀ k, (gN c k).length ≤ k
  | 0 => Nat.le_refl _
  | k + 1 => by
    have ih := gN_len c k
    unfold gN
    split
    · unfold addG
      split
      · rw [List.length_set]; omega
      · simp; omega
    · omega
theorem open_loop (l : List Eve) (c : List Cal) (b : Nat) (hc : c.length < 1000000000000) (R : Exit → S → Prop)
    (hR : ∀ es X, OkE (gN c c.length) es → Tail (gN c c.length) X → RunR Try.prog 0 (behind 7 ((Try.f4.body).getD .skip)) ⟨[lEv l, .junk, .lst 1 0 [], Bo false, lCal c, .junk, .v (.map (some b)), thrC (gN c c.length), Bo (allN c c.length), .junk, .junk, .junk, .junk, .junk, .junk, .junk, .junk, .junk, .junk, .junk, .junk, .junk, .junk, .junk, .junk, .junk, .junk, .junk, .junk, .junk, .junk, .junk, .junk, .junk, .junk, .junk, .junk, .junk, .junk, .junk, .junk, .junk, .junk, .junk, .junk, .junk, .junk, .junk, .junk, .junk, .junk, .junk, .junk, .junk, .junk, .junk, .junk, .junk, .junk, .junk, .junk, .junk, .junk, .junk, .junk, .junk, .junk, .junk, .junk, .junk, .junk, .junk, .junk, .junk, .junk, .junk, .junk, .junk, .junk, .junk, .junk, .junk, .junk, .junk, .junk, .junk], obC b es (gN c c.length).length (cellsG (gN c c.length)) :: X⟩ R) :
    RunR Try.prog 0 (behind 4 ((Try.f4.body).getD .skip)) ⟨[lEv l, .junk, .lst 1 0 [], Bo false, lCal c, .junk, .v (.map (some b)), .junk, .junk, .junk, .junk, .junk, .junk, .junk, .junk, .junk, .junk, .junk, .junk, .junk, .junk, .junk, .junk, .junk, .junk, .junk, .junk, .junk, .junk, .junk, .junk, .junk, .junk, .junk, .junk, .junk, .junk, .junk, .junk, .junk, .junk, .junk, .junk, .junk, .junk, .junk, .junk, .junk, .junk, .junk, .junk, .junk, .junk, .junk, .junk, .junk, .junk, .junk, .junk, .junk, .junk, .junk, .junk, .junk, .junk, .junk, .junk, .junk, .junk, .junk, .junk, .junk, .junk, .junk, .junk, .junk, .junk, .junk, .junk, .junk, .junk, .junk, .junk, .junk, .junk, .junk], [obC b [] 0 []]⟩ R := by
  have m1 : (c.map encCal).length = c.length := List.length_map ..
  refine cutK ?_
  conv => whnf
  refine .inl ⟨rfl, _, _, .refl _, cutK ?_⟩
  conv => whnf
  refine .inl ⟨rfl, _, _, .refl _, cutK ?_⟩
  conv => whnf
  rw [m1]
  refine Loops.invK (fun n t1 H1 => ∃ k es X, k + n = c.length ∧ OkE (gN c k) es ∧ Tail (gN c k) X ∧ t1 = [lEv l, .junk, .lst 1 0 [], Bo false, lCal c, .junk, .v (.map (some b)), thrC (gN c k), Bo (allN c k), .junk, .junk, .junk, .junk, .junk, .junk, .junk, .junk, .junk, .junk, .junk, .junk, .junk, .junk, .junk, lCal c, I c.length, I k, .junk, .junk, .junk, .junk, .junk, .junk, .junk, .junk, .junk, .junk, .junk, .junk, .junk, .junk, .junk, .junk, .junk, .junk, .junk, .junk, .junk, .junk, .junk, .junk, .junk, .junk, .junk, .junk, .junk, .junk, .junk, .junk, .junk, .junk, .junk, .junk, .junk, .junk, .junk, .junk, .junk, .junk, .junk, .junk, .junk, .junk, .junk, .junk, .junk, .junk, .junk, .junk, .junk, .junk, .junk, .junk, .junk, .junk, .junk] ∧ H1 = obC b es (gN c k).length (cellsG (gN c k)) :: X) c.length ?_ ?_
  · refine ⟨_, _, Weak.mask [0, 2, 3, 4, 6, 7, 8, 24, 25, 26] _ _, 0, [], [], by simp, ⟨rfl, by simp [gN]⟩, ⟨rfl, by simp [gN], by simp [gN], rfl, fun _ => rfl⟩, rfl, rfl⟩
  rintro n _ _ ⟨k, es, X, hk, hE, hX, rfl, rfl⟩
  refine .seq (.ofA ?_)
  conv => whnf
  refine ⟨fun h => ?_, fun h => ?_⟩
  rotate_left
  · (conv => whnf); (try (refine ⟨(rfl : (_ : Heap) = _), ?_⟩; (conv => whnf)))
    refine .seq (.ofA ?_)
    conv => whnf
    refine .inr ⟨by simp, ?_⟩
    conv => whnf
    have ek : k = c.length := by have : ¬ k < c.length := by simpa using h
                                 omega
    subst ek
    exact .inl ⟨rfl, _, _, Weak.mask [0, 2, 3, 4, 6, 7, 8] _ _, hR es X hE hX⟩
  have hlt : k < c.length := by simpa using h
  have hq : c[k]? = some c[k] := List.getElem?_eq_getElem hlt
  have hat := atCal_eq hq
  generalize c[k] = x at hq hat
  have gq : (c.map encCal)[k]? = some (encCal x) := by rw [List.getElem?_map, hq]; rfl
  (conv => whnf); (try (refine ⟨(rfl : (_ : Heap) = _), ?_⟩; (conv => whnf)))
  refine .seq (.ofA ?_)
  conv => whnf
  refine .seq (.block (.seq (.regionApp [_, _] [_, _] rfl ?_)))
  conv => whnf
  refine ⟨by omega, _, gq, ?_⟩
  (conv => whnf); (try (refine ⟨(rfl : (_ : Heap) = _), ?_⟩; (conv => whnf)))
  have hl2 : (obC b es (gN c k).length (cellsG (gN c k)) :: X).length = 2 * (gN c k).length + 1 := by rw [List.length_cons, hX.len]
  refine .loopVar (row := encCal x) (zero := encCal ⟨0, 0, 0, 0, 0, ⟨0, 0, 0, 0, 0, 0, 0, six0⟩⟩) rfl rfl rfl rfl rfl rfl (by kernel_rfl) rfl rfl rfl rfl (by intro h; cases h) rfl (encCal_shut x) (Nat.le_of_ble_eq_true rfl) (Nat.zero_le _) (by rw [hl2]; exact rows_cons (map_low _ _ _) (hX.low _)) (by rw [hl2]; simp only [put, List.set_cons_succ, List.set_cons_zero, List.map_cons, List.map_nil, thr_low]; rfl) ?_
  refine .seq (.ofA ?_)
  conv => whnf
  refine ⟨fun h1 => ?_, fun h1 => ?_⟩
  · have he : endedC (atCal c k) = false := by rw [hat]; unfold endedC; rw [show decide (x.to_ < 0) = true from h1]; rfl
    have eg : gN c (k + 1) = gN c k := by show (if endedC (atCal c k) then _ else _) = _; rw [he]; rfl
    have ea : allN c (k + 1) = false := by show (allN c k && endedC (atCal c k)) = false; rw [he, Bool.and_false]
    (conv => whnf); (try (refine ⟨(rfl : (_ : Heap) = _), ?_⟩; (conv => whnf)))
    refine .ofA ?_
    conv => whnf
    rw [i64_nat (by omega)]
    refine .inl ⟨rfl, n - 1, _, _, by omega, Weak.mask [0, 2, 3, 4, 6, 7, 8, 24, 25, 26] _ _, k + 1, es, X, by omega, by rw [eg]; exact hE, by rw [eg]; exact hX, ?_, ?_⟩
    · rw [eg, ea]; rfl
    · rw [eg]
  have he : endedC (atCal c k) = true := by rw [hat]; unfold endedC; rw [show decide (x.to_ < 0) = false from h1]; rfl
  have eg : gN c (k + 1) = addG (gN c k) x.thread x.answer := by show (if endedC (atCal c k) then _ else _) = _; rw [he, hat]; rfl
  have ea : allN c (k + 1) = allN c k := by show (allN c k && endedC (atCal c k)) = _; rw [he, Bool.and_true]
  (conv => whnf); (try (refine ⟨(rfl : (_ : Heap) = _), ?_⟩; (conv => whnf)))
  have hce : (cellsG (gN c k)).length = es.length := by unfold cellsG; rw [List.length_mapIdx, hE.len]
  have okG := gN_ok c k (by omega)
  refine .seq ?_
  cases hf : atG (gN c k) x.thread with
  | some j =>
    obtain ⟨y, hy, hyt⟩ := atG_some hf
    have hyn := (okG.val y (List.mem_of_getElem? hy)).2
    have hjl := (List.getElem?_eq_some_iff.1 hy).1
    have hyl : y.2.length ≤ k := by rw [(okG.val y (List.mem_of_getElem? hy)).1]; exact Nat.le_trans (given_le _ _) (by rw [List.length_take]; omega)
    have hcj : (cellsG (gN c k))[j]? = some (.gl (2 * j + 2) 13 (rowsA y.2)) := by unfold cellsG; rw [List.getElem?_mapIdx, hy]; rfl
    refine .ofA ?_
    conv => whnf
    refine ⟨_, _, OpV.lookHitC (id := 0) _ _ _ _ rfl rfl rfl rfl hce rfl rfl rfl rfl ((hE.find x.thread).trans hf) hcj, ?_⟩
    (conv => whnf); (try (refine ⟨(rfl : (_ : Heap) = _), ?_⟩; (conv => whnf)))
    refine ⟨fun h => ?_, fun _ => ?_⟩
    · exfalso
      have : (y.2.length : Int) = 0 := by simpa using h
      exact hyn (List.length_eq_zero_iff.1 (by omega))
    (conv => whnf); (try (refine ⟨(rfl : (_ : Heap) = _), ?_⟩; (conv => whnf)))
    refine .ofA ?_
    conv => whnf
    refine .inr ⟨⟨[2, 5, 8], [], false⟩, by kernel_rfl, fun h => absurd h (by decide), _, ?_, fun t2 H2 h => h⟩
    conv => whnf
    refine ⟨?_, trivial⟩
    conv => whnf
    refine ⟨_, _, OpV.lookHitC (id := 0) _ _ _ _ rfl rfl rfl rfl hce rfl rfl rfl rfl ((hE.find x.thread).trans hf) hcj, ?_⟩
    (conv => whnf); (try (refine ⟨(rfl : (_ : Heap) = _), ?_⟩; (conv => whnf)))
    refine ⟨?_, trivial⟩
    conv => whnf
    have hob : (obC b es (gN c k).length (cellsG (gN c k)) :: X)[2 * j + 2]? = some ⟨4, 39, 13, rowsA y.2, 0⟩ := by rw [List.getElem?_cons_succ]; exact hX.row j y hy
    refine (OpV.appendGl _ rfl _ _ ⟨rfl, rfl, ⟨_, rfl, Try.underlying23⟩, rfl, rfl, rfl⟩ rfl hob rfl rfl (.inr rfl) (by simp [maxLen]; omega) (by show _ * 104 ≤ _; simp; omega)).toR ?_
    (conv => whnf); (try (refine ⟨(rfl : (_ : Heap) = _), ?_⟩; (conv => whnf)))
    refine ⟨?_, trivial⟩
    conv => whnf
    obtain ⟨v0, hv0⟩ := hE.at_ j y hy
    refine OpVR.updHitC (id := 0) _ _ _ _ (.inl rfl) rfl rfl rfl hce rfl rfl ((hE.find x.thread).trans hf) hv0 ?_
    intro v
    (conv => whnf); (try (refine ⟨(rfl : (_ : Heap) = _), ?_⟩; (conv => whnf)))
    refine ⟨_, _, .refl _, ?_⟩
    conv => whnf
    refine .ofA ?_
    conv => whnf
    rw [i64_nat (by omega)]
    have eg2 : gN c (k + 1) = (gN c k).set j (y.1, y.2 ++ [x.answer]) := by rw [eg]; unfold addG; rw [hf]; dsimp only; rw [hy, hyt]; rfl
    refine .inl ⟨rfl, n - 1, _, _, by omega, Weak.mask [0, 2, 3, 4, 6, 7, 8, 24, 25, 26] _ _, k + 1, es.set j (y.1, v, j), X.set (2 * j + 1) (rowO (y.2 ++ [x.answer])), by omega, by rw [eg2]; exact hE.set hjl _ _ _, by rw [eg2]; exact hX.set hy _, ?_, ?_⟩
    · rw [eg2, ea, thr_set]; rfl
    · have er : rowsA (y.2 ++ [x.answer]) = rowsA y.2 ++ [encA x.answer] := List.map_append
      rw [eg2, cells_set _ _ _ _ hjl, List.length_set]
      simp only [rowO]
      rw [er]
      rfl
  | none =>
    refine .seq (.ofA ?_)
    conv => whnf
    refine ⟨_, _, OpV.lookMissC (id := 0) _ _ _ _ rfl rfl rfl rfl rfl rfl rfl rfl ((hE.find x.thread).trans hf) (fun E => .lnil 1 0 (.inr rfl)), ?_⟩
    (conv => whnf); (try (refine ⟨(rfl : (_ : Heap) = _), ?_⟩; (conv => whnf)))
    (repeat (first | (refine ⟨fun _ => ?_, fun h => absurd h (by decide)⟩; (conv => whnf); (try (refine ⟨(rfl : (_ : Heap) = _), ?_⟩; (conv => whnf)))) | (refine ⟨fun h => absurd h (by decide), fun _ => ?_⟩; (conv => whnf); (try (refine ⟨(rfl : (_ : Heap) = _), ?_⟩; (conv => whnf))))))
    refine .cond (b := true) rfl (.regionApp [] _ rfl (OK.run rfl ((OpV.moveA _ (.inl rfl)).toR (OK.app [_, _, _] [_, _] ?_))))
    conv => whnf
    have eg2 : gN c (k + 1) = gN c k ++ [(x.thread, [x.answer])] := by rw [eg]; unfold addG; rw [hf]
    have hgl : (gN c k).length ≤ k := gN_len c k
    have hthr : thrC (gN c k ++ [(x.thread, [x.answer])]) = .sl (2 * (gN c k).length + 1) [] 1 0 ((gN c k).length + 1) false := by
      unfold thrC
      rw [if_neg (by simp), List.length_append]
      rfl
    by_cases hg : gN c k = []
    · have hl0 := hX.len
      rw [hg] at hE hX hce hthr eg2 hl0 okG hf ⊢
      have ht : thrC [] = .lst 1 0 [] := rfl
      obtain rfl : X = [] := List.length_eq_zero_iff.1 hl0
      have hY : ([] : Heap).length = ([] : Heap).length := rfl
      have hrow : ∀ i : Nat, i ≠ 2 * ([] : Gs).length - 2 → ([] : Heap)[i]? = ([] : Heap)[i]? := fun _ _ => rfl
      have hfl : flatH [] = true := rfl
      have hlo : ∀ n, rowsLow n [] = true := fun _ => rfl
      rw [ht]
      refine OK.run rfl ((OpV.appendFullA _ rfl _ _ ⟨rfl, rfl, ⟨_, rfl, Try.underlying35⟩, rfl, rfl, rfl⟩ rfl (.inl rfl) rfl (by simp) (by show 0 + 1 ≤ maxLen; decide) (by show (0 + 1) * 8 ≤ _; decide)).toR ?_)
      refine OK.run rfl ((OpV.moveA _ (.inr rfl)).toR (OK.nil ?_))
      have hHl : (obC b es ([] : Gs).length (cellsG ([] : Gs)) :: (([] : Heap) ++ [arrO (([] : Gs).map (·.1) ++ [x.thread])])).length = 2 * ([] : Gs).length + 2 := by rw [List.length_cons, List.length_append, hY, hX.len]; rfl
      refine .ofA ?_
      conv => whnf
      refine .inr ⟨⟨[2, 5, 8], [], false⟩, by kernel_rfl, fun h => absurd h (by decide), _, ?_, fun t2 H2 h => h⟩
      conv => whnf
      refine ⟨?_, trivial⟩
      conv => whnf
      refine ⟨_, _, OpV.lookMissC (id := 0) _ _ _ _ rfl rfl rfl rfl rfl rfl rfl rfl ((hE.find x.thread).trans hf) (fun E => .lnil 1 0 (.inr rfl)), ?_⟩
      (conv => whnf); (try (refine ⟨(rfl : (_ : Heap) = _), ?_⟩; (conv => whnf)))
      refine ⟨?_, trivial⟩
      conv => whnf
      refine (OpV.appendFullGl _ rfl _ _ ⟨rfl, rfl, ⟨_, rfl, Try.underlying23⟩, rfl, rfl, rfl⟩ rfl (.inl rfl) rfl (.inr rfl) (by show 0 + 1 ≤ maxLen; decide) (by show (0 + 1) * 104 ≤ _; decide)).toR ?_
      (conv => whnf); (try (refine ⟨(rfl : (_ : Heap) = _), ?_⟩; (conv => whnf)))
      refine ⟨?_, trivial⟩
      conv => whnf
      refine OpVR.updMissC (id := 0) _ _ _ _ (.inl rfl) rfl rfl rfl hce rfl rfl ((hE.find x.thread).trans hf) ?_
      intro v
      (conv => whnf); (try (refine ⟨(rfl : (_ : Heap) = _), ?_⟩; (conv => whnf)))
      refine ⟨_, _, .refl _, ?_⟩
      conv => whnf
      refine .ofA ?_
      conv => whnf
      rw [i64_nat (by omega)]
      refine .inl ⟨rfl, n - 1, _, _, by omega, Weak.mask [0, 2, 3, 4, 6, 7, 8, 24, 25, 26] _ _, k + 1, es ++ [(x.thread, v, ([] : Gs).length)], ([] : Heap) ++ [arrO ((([] : Gs) ++ [(x.thread, [x.answer])]).map (·.1)), rowO [x.answer]], by omega, by rw [eg2]; exact hE.push _ _ _, by rw [eg2]; exact hX.push hY hrow hfl hlo _ _, ?_, ?_⟩
      · rw [eg2, ea, hthr]; rfl
      · have e3 : (([] : Gs) ++ [(x.thread, [x.answer])]).length = ([] : Gs).length + 1 := by simp
        rw [eg2, cells_push, e3]
        have e2 : ([] : Heap) ++ [arrO ((([] : Gs) ++ [(x.thread, [x.answer])]).map (·.1)), rowO [x.answer]] = (([] : Heap) ++ [arrO (([] : Gs).map (·.1) ++ [x.thread])]) ++ [rowO [x.answer]] := by simp
        rw [e2, ← hHl]
        rfl
    · have hpos : 0 < (gN c k).length := List.length_pos_iff.2 hg
      have ht : thrC (gN c k) = .sl (2 * (gN c k).length - 1) [] 1 0 (gN c k).length false := by unfold thrC; rw [if_neg hg]
      have harr : (obC b es (gN c k).length (cellsG (gN c k)) :: X)[2 * (gN c k).length - 1]? = some (arrO ((gN c k).map (·.1))) := by
        rw [show 2 * (gN c k).length - 1 = (2 * (gN c k).length - 2) + 1 from by omega, List.getElem?_cons_succ]
        exact hX.arr hg
      have hkill : killB (obC b es (gN c k).length (cellsG (gN c k)) :: X) (2 * (gN c k).length - 1) = obC b es (gN c k).length (cellsG (gN c k)) :: killB X (2 * (gN c k).length - 2) := by
        rw [show 2 * (gN c k).length - 1 = (2 * (gN c k).length - 2) + 1 from by omega]
        rfl
      have hY : (killB X (2 * (gN c k).length - 2)).length = X.length := by unfold killB; simp
      have hrow : ∀ i : Nat, i ≠ 2 * (gN c k).length - 2 → (killB X (2 * (gN c k).length - 2))[i]? = X[i]? := fun i hi => by
        rw [killB_get]
        cases X[i]? with
        | none => rfl
        | some o => rw [Option.map_some, if_neg (Ne.symm hi)]
      have hks : killB X (2 * (gN c k).length - 2) = X.set (2 * (gN c k).length - 2) ⟨0, 3, 1, ((gN c k).map (·.1)).map rowI, 0⟩ := by
        apply List.ext_getElem?
        intro i
        rw [killB_get, List.getElem?_set]
        have h1 := hX.arr hg
        split
        · rename_i e
          subst e
          rw [if_pos (List.getElem?_eq_some_iff.1 h1).1, h1]
          simp
        · rename_i e
          cases X[i]? with
          | none => rfl
          | some o => simp [e]
      have hfl : flatH (killB X (2 * (gN c k).length - 2)) = true := by rw [hks]; exact flat_set hX.flat _ rfl
      have hlo : ∀ n, rowsLow n (killB X (2 * (gN c k).length - 2)) = true := fun n => by rw [hks]; exact low_set (hX.low n) _ (rows_int n _)
      rw [ht]
      refine OK.run rfl ((OpV.appendArrA _ rfl _ _ ⟨rfl, rfl, ⟨_, rfl, Try.underlying35⟩, rfl, rfl, rfl⟩ rfl harr rfl rfl rfl (by simp) (own_int _) rfl (by simp) (by simp [maxLen]; omega) (by show _ * 8 ≤ _; simp; omega)).toR ?_)
      refine OK.run rfl ((OpV.moveA _ (.inr rfl)).toR (OK.nil ?_))
      rw [hkill, hl2]
      have em : (arrO ((gN c k).map (·.1))).rows ++ [[C.v (.int .i64 x.thread)]] = ((gN c k).map (·.1) ++ [x.thread]).map rowI := by simp
      rw [em]
      have hHl : (obC b es (gN c k).length (cellsG (gN c k)) :: ((killB X (2 * (gN c k).length - 2)) ++ [arrO ((gN c k).map (·.1) ++ [x.thread])])).length = 2 * (gN c k).length + 2 := by rw [List.length_cons, List.length_append, hY, hX.len]; rfl
      refine .ofA ?_
      conv => whnf
      refine .inr ⟨⟨[2, 5, 8], [], false⟩, by kernel_rfl, fun h => absurd h (by decide), _, ?_, fun t2 H2 h => h⟩
      conv => whnf
      refine ⟨?_, trivial⟩
      conv => whnf
      refine ⟨_, _, OpV.lookMissC (id := 0) _ _ _ _ rfl rfl rfl rfl rfl rfl rfl rfl ((hE.find x.thread).trans hf) (fun E => .lnil 1 0 (.inr rfl)), ?_⟩
      (conv => whnf); (try (refine ⟨(rfl : (_ : Heap) = _), ?_⟩; (conv => whnf)))
      refine ⟨?_, trivial⟩
      conv => whnf
      refine (OpV.appendFullGl _ rfl _ _ ⟨rfl, rfl, ⟨_, rfl, Try.underlying23⟩, rfl, rfl, rfl⟩ rfl (.inl rfl) rfl (.inr rfl) (by show 0 + 1 ≤ maxLen; decide) (by show (0 + 1) * 104 ≤ _; decide)).toR ?_
      (conv => whnf); (try (refine ⟨(rfl : (_ : Heap) = _), ?_⟩; (conv => whnf)))
      refine ⟨?_, trivial⟩
      conv => whnf
      refine OpVR.updMissC (id := 0) _ _ _ _ (.inl rfl) rfl rfl rfl hce rfl rfl ((hE.find x.thread).trans hf) ?_
      intro v
      (conv => whnf); (try (refine ⟨(rfl : (_ : Heap) = _), ?_⟩; (conv => whnf)))
      refine ⟨_, _, .refl _, ?_⟩
      conv => whnf
      refine .ofA ?_
      conv => whnf
      rw [i64_nat (by omega)]
      refine .inl ⟨rfl, n - 1, _, _, by omega, Weak.mask [0, 2, 3, 4, 6, 7, 8, 24, 25, 26] _ _, k + 1, es ++ [(x.thread, v, (gN c k).length)], (killB X (2 * (gN c k).length - 2)) ++ [arrO (((gN c k) ++ [(x.thread, [x.answer])]).map (·.1)), rowO [x.answer]], by omega, by rw [eg2]; exact hE.push _ _ _, by rw [eg2]; exact hX.push hY hrow hfl hlo _ _, ?_, ?_⟩
      · rw [eg2, ea, hthr]; rfl
      · have e3 : ((gN c k) ++ [(x.thread, [x.answer])]).length = (gN c k).length + 1 := by simp
        rw [eg2, cells_push, e3]
        have e2 : (killB X (2 * (gN c k).length - 2)) ++ [arrO (((gN c k) ++ [(x.thread, [x.answer])]).map (·.1)), rowO [x.answer]] = ((killB X (2 * (gN c k).length - 2)) ++ [arrO ((gN c k).map (·.1) ++ [x.thread])]) ++ [rowO [x.answer]] := by simp
        rw [e2, ← hHl]
        rfl
end Go.Saf

/- Layer 28: which requests are open: behind the calls by threads. -/
namespace Go.Saf
open Go.Ab Go.Proofs Go.Hy Go.Pla
set_option linter.unusedVariables false
set_option linter.unusedSimpArgs false
set_option maxRecDepth 100000
set_option maxHeartbeats 4000000

def cellsW (g : Gs) : List C := g.map fun x => .lst 0 13 (rowsA x.2)
theorem wcs_cells : ∀ (g : Gs) (f : Nat → Nat), WCs (g.mapIdx fun j x => C.gl (f j) 13 (rowsA x.2)) (cellsW g)
  | [], _ => .nil
  | x :: g, f => by
    rw [List.mapIdx_cons]
    exact .cons (.gl _ _ _) (wcs_cells g fun j => f (j + 1))
def outN (c : List Cal) (k : Nat) : List Ans := ((keysV c).take k).flatMap fun t => outT (givenV c t)
theorem outT_le (g : List Ans) : (outT g).length ≤ g.length := by
  unfold outT
  rw [List.length_map]
  exact openN_len g _
theorem outN_succ (c : List Cal) (k : Nat) (t : Int) (h : (keysV c)[k]? = some t) : outN c (k + 1) = outN c k ++ outT (givenV c t) := by
  unfold outN
  rw [List.take_add_one, h]
  simp
theorem outN_le (c : List Cal) : ∀ k, k ≤ (keysV c).length → (outN c k).length ≤ k * c.length
  | 0, _ => by simp [outN]
  | k + 1, hk => by
    have hq : (keysV c)[k]? = some (keysV c)[k] := List.getElem?_eq_getElem hk
    rw [outN_succ c k _ hq, List.length_append]
    have h1 := outN_le c k (by omega)
    have h2 := outT_le (givenV c (keysV c)[k])
    have h3 := given_le c (keysV c)[k]
    rw [Nat.succ_mul]
    omega
theorem keys_len (c : List Cal) : (keysV c).length ≤ c.length := by
  unfold keysV
  rw [List.length_mergeSort, List.length_map]
  exact gN_len c c.length

theorem open_tail (c : List Cal) (b : Nat) (es : List Ent) (hc : c.length ≤ 1000) (hE : OkE (gN c c.length) es) :
    RunR Try.prog 0 (behind 8 ((Try.f4.body).getD .skip)) ⟨[.junk, .junk, .lst 1 0 [], Bo false, .junk, .junk, .v (.map (some b)), lI (keysV c), Bo (allN c c.length), .junk, .junk, .junk, .junk, .junk, .junk, .junk, .junk, .junk, .junk, .junk, .junk, .junk, .junk, .junk, .junk, .junk, .junk, .junk, .junk, .junk, .junk, .junk, .junk, .junk, .junk, .junk, .junk, .junk, .junk, .junk, .junk, .junk, .junk, .junk, .junk, .junk, .junk, .junk, .junk, .junk, .junk, .junk, .junk, .junk, .junk, .junk, .junk, .junk, .junk, .junk, .junk, .junk, .junk, .junk, .junk, .junk, .junk, .junk, .junk, .junk, .junk, .junk, .junk, .junk, .junk, .junk, .junk, .junk, .junk, .junk, .junk, .junk, .junk, .junk, .junk, .junk], [obC b es (gN c c.length).length (cellsW (gN c c.length))]⟩ fun ex s => (ex = .ret ∨ ex = .normal) ∧ ∃ s2, Weak 0 s s2 ∧ (resC Try.prog Try.f4 s2).map (lowOf 0 9) = some (.tup [lA (openP c), Bo (allN c c.length)]) := by
  have m1 : ((keysV c).map Hy.encI).length = (keysV c).length := List.length_map ..
  have hkl := keys_len c
  refine (RK.ofA (K := fun ex t H => (ex = .ret ∨ ex = .normal) ∧ ∃ s2, Weak 0 ⟨t, H⟩ s2 ∧ (resC Try.prog Try.f4 s2).map (lowOf 0 9) = some (.tup [lA (openP c), Bo (allN c c.length)])) ?_).out
  conv => whnf
  rw [m1]
  refine Loops.seq (keysV c).length (fun k => [.junk, .junk, .lst 1 0 [], Bo false, .junk, .junk, .v (.map (some b)), .junk, Bo (allN c c.length), .junk, .junk, .gl 1 13 (rowsA (outN c k)), .junk, .junk, .junk, .junk, .junk, .junk, .junk, .junk, .junk, .junk, .junk, .junk, .junk, .junk, .junk, .junk, .junk, .junk, .junk, .junk, .junk, .junk, .junk, .junk, .junk, .junk, .junk, .junk, .junk, .junk, .junk, .junk, .junk, .junk, .junk, .junk, .junk, .junk, .junk, .junk, .junk, .junk, .junk, .junk, .junk, .junk, lI (keysV c), I (keysV c).length, I k, .junk, .junk, .junk, .junk, .junk, .junk, .junk, .junk, .junk, .junk, .junk, .junk, .junk, .junk, .junk, .junk, .junk, .junk, .junk, .junk, .junk, .junk, .junk, .junk, .junk]) (fun k => [obC b es (gN c c.length).length (cellsW (gN c c.length)), ⟨4, 39, 13, rowsA (outN c k), 0⟩]) (fun _ => True) ?_ trivial (fun k hk _ => ?_) (fun _ => ?_)
  · exact (Weak.grow 11 39 13 rfl (.inl rfl)).trans (Weak.cov (by (conv => whnf); (repeat (refine ⟨rfl, ?_⟩; (conv => whnf))); exact trivial))
  · have hq : (keysV c)[k]? = some (keysV c)[k] := List.getElem?_eq_getElem hk
    have hkm := List.getElem_mem hk
    generalize (keysV c)[k] = t at hq hkm
    have gq : ((keysV c).map Hy.encI)[k]? = some (Hy.encI t) := by rw [List.getElem?_map, hq]; rfl
    have okG := gN_ok c c.length (Nat.le_refl _)
    have hgt : givenV c t ≠ [] := (keys_mem c t).1 hkm
    obtain ⟨y0, hy0, hyt0⟩ := okG.all t (by rw [List.take_length]; exact hgt)
    have hce : (cellsW (gN c c.length)).length = es.length := by unfold cellsW; rw [List.length_map, hE.len]
    obtain ⟨j0, hf⟩ : ∃ j0, atG (gN c c.length) t = some j0 := by
      cases hf : atG (gN c c.length) t with
      | some j => exact ⟨j, rfl⟩
      | none => exact absurd hyt0 (atG_none hf y0 hy0)
    obtain ⟨y, hy, hyt⟩ := atG_some hf
    have hyv := (okG.val y (List.mem_of_getElem? hy)).1
    rw [List.take_length, hyt] at hyv
    have hcj : (cellsW (gN c c.length))[j0]? = some (.lst 0 13 (rowsA y.2)) := by unfold cellsW; rw [List.getElem?_map, hy]; rfl
    rw [hyv] at hcj
    have hst := outN_succ c k t hq
    have hol := outN_le c k (by omega)
    have hgl := given_le c t
    have hob : (outN c k).length ≤ 1000000 := Nat.le_trans hol (by have := Nat.mul_le_mul (show k ≤ 1000 by omega) hc; omega)
    obtain ⟨g, hg⟩ : ∃ g, g = givenV c t := ⟨_, rfl⟩
    rw [← hg] at hcj hst hgl
    conv => whnf
    (refine ⟨fun _ => ?_, fun h => absurd h (by simp; omega)⟩); (conv => whnf); (try (refine ⟨(rfl : (_ : Heap) = _), ?_⟩; (conv => whnf)))
    refine ⟨by omega, _, gq, ?_⟩
    (conv => whnf); (try (refine ⟨(rfl : (_ : Heap) = _), ?_⟩; (conv => whnf)))
    refine ⟨_, _, OpV.lookHitC (id := 0) _ _ _ _ rfl rfl rfl rfl hce rfl rfl rfl rfl ((hE.find t).trans hf) hcj, ?_⟩; (conv => whnf); (try (refine ⟨(rfl : (_ : Heap) = _), ?_⟩; (conv => whnf)))
    refine ⟨_, _, (open_sound g (by omega)).frame rfl _, ?_⟩; (conv => whnf); (try (refine ⟨(rfl : (_ : Heap) = _), ?_⟩; (conv => whnf)))
    have m2 : (((openV g).map fun (n : Nat) => (n : Int)).map Hy.encI).length = (openV g).length := by simp
    have hov : (openV g).length ≤ g.length := openN_len g _
    rw [m2]
    refine Loops.seq (openV g).length (fun j => [.junk, .junk, .lst 1 0 [], Bo false, .junk, .junk, .v (.map (some b)), .junk, Bo (allN c c.length), .junk, .junk, .gl 1 13 (rowsA (outN c k ++ ((openV g).take j).map (atAns g))), .junk, I t, .junk, .junk, .junk, .junk, .junk, .junk, .junk, .junk, .junk, .junk, .junk, .junk, .junk, .junk, .junk, .junk, .junk, .junk, .junk, .junk, .junk, .junk, .junk, .junk, .junk, .junk, .junk, .junk, .junk, .junk, .junk, .junk, .junk, .junk, .junk, .junk, .junk, .junk, .junk, .junk, .junk, .junk, .junk, .junk, lI (keysV c), I (keysV c).length, I k, .junk, .junk, .junk, .junk, .junk, .junk, lI ((openV g).map fun (n : Nat) => (n : Int)), I (openV g).length, I j, .junk, .junk, .junk, .junk, .junk, .junk, .junk, .junk, .junk, .junk, .junk, .junk, .junk, .junk, .junk, .junk]) (fun j => [obC b es (gN c c.length).length (cellsW (gN c c.length)), ⟨4, 39, 13, rowsA (outN c k ++ ((openV g).take j).map (atAns g)), 0⟩]) (fun _ => True) ?_ trivial (fun j hj _ => ?_) (fun _ => ?_)
    · rw [List.take_zero, List.map_nil, List.append_nil]
      exact Weak.cov (by (conv => whnf); (repeat (refine ⟨rfl, ?_⟩; (conv => whnf))); exact trivial)
    · have hqj : (openV g)[j]? = some (openV g)[j] := List.getElem?_eq_getElem hj
      have hnl := openN_lt g _ (Nat.le_refl _) _ (List.getElem_mem hj)
      generalize (openV g)[j] = n at hqj hnl
      have gj : (((openV g).map fun (n : Nat) => (n : Int)).map Hy.encI)[j]? = some (Hy.encI n) := by rw [List.getElem?_map, List.getElem?_map, hqj]; rfl
      have hb : g[n]? = some g[n] := List.getElem?_eq_getElem hnl
      have hat : atAns g n = g[n] := by unfold atAns; rw [hb]; rfl
      generalize g[n] = a at hb hat
      have gb : (g.map encA)[n]? = some (encA a) := by rw [List.getElem?_map, hb]; rfl
      have htk : ((openV g).take (j + 1)).map (atAns g) = ((openV g).take j).map (atAns g) ++ [a] := by rw [List.take_add_one, hqj, List.map_append]; simp [hat]
      have hlt : ((openV g).take j).length ≤ 1000 := by rw [List.length_take]; omega
      conv => whnf
      (refine ⟨fun _ => ?_, fun h => absurd h (by simp; omega)⟩); (conv => whnf); (try (refine ⟨(rfl : (_ : Heap) = _), ?_⟩; (conv => whnf)))
      refine ⟨by omega, _, gj, ?_⟩
      (conv => whnf); (try (refine ⟨(rfl : (_ : Heap) = _), ?_⟩; (conv => whnf)))
      refine ⟨_, _, OpV.lookHitC (id := 0) _ _ _ _ rfl rfl rfl rfl hce rfl rfl rfl rfl ((hE.find t).trans hf) hcj, ?_⟩; (conv => whnf); (try (refine ⟨(rfl : (_ : Heap) = _), ?_⟩; (conv => whnf)))
      refine ⟨by omega, _, gb, ?_⟩
      (conv => whnf); (try (refine ⟨(rfl : (_ : Heap) = _), ?_⟩; (conv => whnf)))
      refine (OpV.appendGl _ rfl _ _ ⟨rfl, rfl, ⟨_, rfl, Try.underlying23⟩, rfl, rfl, rfl⟩ rfl rfl rfl rfl (.inr rfl) (by simp [maxLen]; omega) (by show _ * 104 ≤ _; simp; omega)).toR ?_
      (conv => whnf); (try (refine ⟨(rfl : (_ : Heap) = _), ?_⟩; (conv => whnf)))
      rw [i64_nat (by omega)]
      have er : rowsA (outN c k ++ ((openV g).take (j + 1)).map (atAns g)) = rowsA (outN c k ++ ((openV g).take j).map (atAns g)) ++ [encA a] := by rw [htk]; simp
      refine .inl ⟨rfl, ?_, trivial⟩
      rw [er]
      exact Weak.cov (by (conv => whnf); (repeat (refine ⟨rfl, ?_⟩; (conv => whnf))); exact trivial)
    · conv => whnf
      refine ⟨fun h => absurd h (by simp), fun _ => ?_⟩
      (conv => whnf); (try (refine ⟨(rfl : (_ : Heap) = _), ?_⟩; (conv => whnf)))
      refine ⟨by simp, ?_⟩
      (conv => whnf); (try (refine ⟨(rfl : (_ : Heap) = _), ?_⟩; (conv => whnf)))
      rw [i64_nat (by omega)]
      refine .inl ⟨rfl, ?_, trivial⟩
      rw [List.take_length]
      rw [show outN c (k + 1) = outN c k ++ (openV g).map (atAns g) from hst]
      exact Weak.cov (by (conv => whnf); (repeat (refine ⟨rfl, ?_⟩; (conv => whnf))); exact trivial)
  · conv => whnf
    refine ⟨fun h => absurd h (by simp), fun _ => ?_⟩
    (conv => whnf); (try (refine ⟨(rfl : (_ : Heap) = _), ?_⟩; (conv => whnf)))
    refine ⟨by simp, ?_⟩
    conv => whnf
    have eo : outN c (keysV c).length = openP c := by unfold outN openP; rw [List.take_length]
    rw [eo]
    cases allN c c.length <;> exact ⟨.inl rfl, _, .refl _, rfl⟩
end Go.Saf

/- Layer 28: which requests are open, whole. -/
namespace Go.Saf
open Go.Ab Go.Proofs Go.Hy Go.Pla
set_option linter.unusedVariables false
set_option linter.unusedSimpArgs false
set_option maxRecDepth 100000
set_option maxHeartbeats 4000000

theorem closed_cells (g : Gs) : (cellsW g).all closedC = true := List.all_eq_true.2 fun c hc => by
  obtain ⟨x, _, rfl⟩ := List.mem_map.1 hc
  rfl
theorem ren_int (sel : List Nat) (l : List Int) : renOb sel (arrO l) = arrO l := by
  unfold renOb arrO
  simp only [List.map_map]
theorem map_int (ρ : Nat → Nat) (l : List Int) : mapOb ρ (arrO l) = arrO l := by
  unfold mapOb arrO
  simp only [List.map_map]
  first | done | rfl
theorem low_cells (n b k : Nat) (es : List Ent) (g : Gs) : rowsLow n [obC b es k (cellsW g)] = true := by
  unfold rowsLow
  simp only [List.all_cons, List.all_nil, Bool.and_true]
  have : ((cellsW g).all (lowC n 9)) = true := List.all_eq_true.2 fun c hc => by obtain ⟨x, _, rfl⟩ := List.mem_map.1 hc; rfl
  rw [this]
  rfl
theorem open_mid (l : List Eve) (c : List Cal) (b : Nat) (es : List Ent) (X : Heap) (hc : c.length ≤ 1000) (hE : OkE (gN c c.length) es) (hX : Tail (gN c c.length) X) :
    RunR Try.prog 0 (behind 7 ((Try.f4.body).getD .skip)) ⟨[lEv l, .junk, .lst 1 0 [], Bo false, lCal c, .junk, .v (.map (some b)), thrC (gN c c.length), Bo (allN c c.length), .junk, .junk, .junk, .junk, .junk, .junk, .junk, .junk, .junk, .junk, .junk, .junk, .junk, .junk, .junk, .junk, .junk, .junk, .junk, .junk, .junk, .junk, .junk, .junk, .junk, .junk, .junk, .junk, .junk, .junk, .junk, .junk, .junk, .junk, .junk, .junk, .junk, .junk, .junk, .junk, .junk, .junk, .junk, .junk, .junk, .junk, .junk, .junk, .junk, .junk, .junk, .junk, .junk, .junk, .junk, .junk, .junk, .junk, .junk, .junk, .junk, .junk, .junk, .junk, .junk, .junk, .junk, .junk, .junk, .junk, .junk, .junk, .junk, .junk, .junk, .junk, .junk], obC b es (gN c c.length).length (cellsG (gN c c.length)) :: X⟩ fun ex s => (ex = .ret ∨ ex = .normal) ∧ ∃ s2, Weak 0 s s2 ∧ (resC Try.prog Try.f4 s2).map (lowOf 0 9) = some (.tup [lA (openP c), Bo (allN c c.length)]) := by
  have ht := open_tail c b es hc hE
  have hgl := gN_len c c.length
  by_cases hg : gN c c.length = []
  · have hk : keysV c = [] := by unfold keysV; rw [hg]; exact List.mergeSort_nil
    obtain rfl : X = [] := by
      have := hX.len
      rw [hg] at this
      exact List.length_eq_zero_iff.1 this
    rw [hk, hg] at ht
    rw [hg]
    refine cutK ?_
    conv => whnf
    refine ⟨_, _, (sort0_sound).frame rfl _, ?_⟩; (conv => whnf); (try (refine ⟨(rfl : (_ : Heap) = _), ?_⟩; (conv => whnf)))
    exact .inl ⟨rfl, _, _, (Weak.cell 7 rfl (WC.nil 0 1)).trans (Weak.cov (by (conv => whnf); (repeat (refine ⟨rfl, ?_⟩; (conv => whnf))); exact trivial)), ht⟩
  · have hpos : 0 < (gN c c.length).length := List.length_pos_iff.2 hg
    have e1 : thrC (gN c c.length) = .sl (2 * (gN c c.length).length - 1) [] 1 0 (gN c c.length).length false := by unfold thrC; rw [if_neg hg]
    have w1 := Weak.recs (B := 0) 0 (s := ⟨[lEv l, .junk, .lst 1 0 [], Bo false, lCal c, .junk, .v (.map (some b)), thrC (gN c c.length), Bo (allN c c.length), .junk, .junk, .junk, .junk, .junk, .junk, .junk, .junk, .junk, .junk, .junk, .junk, .junk, .junk, .junk, .junk, .junk, .junk, .junk, .junk, .junk, .junk, .junk, .junk, .junk, .junk, .junk, .junk, .junk, .junk, .junk, .junk, .junk, .junk, .junk, .junk, .junk, .junk, .junk, .junk, .junk, .junk, .junk, .junk, .junk, .junk, .junk, .junk, .junk, .junk, .junk, .junk, .junk, .junk, .junk, .junk, .junk, .junk, .junk, .junk, .junk, .junk, .junk, .junk, .junk, .junk, .junk, .junk, .junk, .junk, .junk, .junk, .junk, .junk, .junk, .junk, .junk], obC b es (gN c c.length).length (cellsG (gN c c.length)) :: X⟩) rfl rfl (wcs_cells (gN c c.length) fun j => 2 * j + 2)
    have hsel : posOf [0, 2 * (gN c c.length).length - 1] 0 (2 * (gN c c.length).length - 1) = some 1 := by
      unfold posOf
      rw [if_neg (by simp; omega)]
      unfold posOf
      rw [if_pos (by simp)]
    have w2 := Weak.ren (B := 0) [0, 2 * (gN c c.length).length - 1] [2, 3, 6, 7, 8] [lEv l, .junk, .lst 1 0 [], Bo false, lCal c, .junk, .v (.map (some b)), thrC (gN c c.length), Bo (allN c c.length), .junk, .junk, .junk, .junk, .junk, .junk, .junk, .junk, .junk, .junk, .junk, .junk, .junk, .junk, .junk, .junk, .junk, .junk, .junk, .junk, .junk, .junk, .junk, .junk, .junk, .junk, .junk, .junk, .junk, .junk, .junk, .junk, .junk, .junk, .junk, .junk, .junk, .junk, .junk, .junk, .junk, .junk, .junk, .junk, .junk, .junk, .junk, .junk, .junk, .junk, .junk, .junk, .junk, .junk, .junk, .junk, .junk, .junk, .junk, .junk, .junk, .junk, .junk, .junk, .junk, .junk, .junk, .junk, .junk, .junk, .junk, .junk, .junk, .junk, .junk, .junk, .junk] (obC b es (gN c c.length).length (cellsW (gN c c.length)) :: X) rfl (by simp [hX.len]; omega) (by simp [nodupB]; omega) (by
      have : flatH ([obC b es (gN c c.length).length (cellsW (gN c c.length))] ++ X) = true := flat_app (by unfold flatH; simp [closed_cells]) hX.flat
      exact this)
    have hren : renH [0, 2 * (gN c c.length).length - 1] (obC b es (gN c c.length).length (cellsW (gN c c.length)) :: X) = [obC b es (gN c c.length).length (cellsW (gN c c.length)), arrO ((gN c c.length).map (·.1))] := by
      unfold renH
      simp only [List.map_cons, List.map_nil]
      rw [show (obC b es (gN c c.length).length (cellsW (gN c c.length)) :: X)[0]? = some (obC b es (gN c c.length).length (cellsW (gN c c.length))) from rfl, show (obC b es (gN c c.length).length (cellsW (gN c c.length)) :: X)[2 * (gN c c.length).length - 1]? = some (arrO ((gN c c.length).map (·.1))) from by
        rw [show 2 * (gN c c.length).length - 1 = (2 * (gN c c.length).length - 2) + 1 from by omega, List.getElem?_cons_succ]; exact hX.arr hg]
      simp only [Option.getD_some]
      rw [renOb_4 rfl, ren_int]
    have htm : (maskL [2, 3, 6, 7, 8] 0 [lEv l, .junk, .lst 1 0 [], Bo false, lCal c, .junk, .v (.map (some b)), thrC (gN c c.length), Bo (allN c c.length), .junk, .junk, .junk, .junk, .junk, .junk, .junk, .junk, .junk, .junk, .junk, .junk, .junk, .junk, .junk, .junk, .junk, .junk, .junk, .junk, .junk, .junk, .junk, .junk, .junk, .junk, .junk, .junk, .junk, .junk, .junk, .junk, .junk, .junk, .junk, .junk, .junk, .junk, .junk, .junk, .junk, .junk, .junk, .junk, .junk, .junk, .junk, .junk, .junk, .junk, .junk, .junk, .junk, .junk, .junk, .junk, .junk, .junk, .junk, .junk, .junk, .junk, .junk, .junk, .junk, .junk, .junk, .junk, .junk, .junk, .junk, .junk, .junk, .junk, .junk, .junk, .junk]).map (renC [0, 2 * (gN c c.length).length - 1] 9) = [.junk, .junk, .lst 1 0 [], Bo false, .junk, .junk, .v (.map (some b)), .sl 1 [] 1 0 (gN c c.length).length false, Bo (allN c c.length), .junk, .junk, .junk, .junk, .junk, .junk, .junk, .junk, .junk, .junk, .junk, .junk, .junk, .junk, .junk, .junk, .junk, .junk, .junk, .junk, .junk, .junk, .junk, .junk, .junk, .junk, .junk, .junk, .junk, .junk, .junk, .junk, .junk, .junk, .junk, .junk, .junk, .junk, .junk, .junk, .junk, .junk, .junk, .junk, .junk, .junk, .junk, .junk, .junk, .junk, .junk, .junk, .junk, .junk, .junk, .junk, .junk, .junk, .junk, .junk, .junk, .junk, .junk, .junk, .junk, .junk, .junk, .junk, .junk, .junk, .junk, .junk, .junk, .junk, .junk, .junk, .junk] := by
      rw [e1]
      have e2 : renC [0, 2 * (gN c c.length).length - 1] 9 (.sl (2 * (gN c c.length).length - 1) [] 1 0 (gN c c.length).length false) = .sl 1 [] 1 0 (gN c c.length).length false := by
        unfold renC
        dsimp only
        rw [hsel]
      have hm : maskL [2, 3, 6, 7, 8] 0 [lEv l, .junk, .lst 1 0 [], Bo false, lCal c, .junk, .v (.map (some b)), .sl (2 * (gN c c.length).length - 1) [] 1 0 (gN c c.length).length false, Bo (allN c c.length), .junk, .junk, .junk, .junk, .junk, .junk, .junk, .junk, .junk, .junk, .junk, .junk, .junk, .junk, .junk, .junk, .junk, .junk, .junk, .junk, .junk, .junk, .junk, .junk, .junk, .junk, .junk, .junk, .junk, .junk, .junk, .junk, .junk, .junk, .junk, .junk, .junk, .junk, .junk, .junk, .junk, .junk, .junk, .junk, .junk, .junk, .junk, .junk, .junk, .junk, .junk, .junk, .junk, .junk, .junk, .junk, .junk, .junk, .junk, .junk, .junk, .junk, .junk, .junk, .junk, .junk, .junk, .junk, .junk, .junk, .junk, .junk, .junk, .junk, .junk, .junk, .junk] = [.junk, .junk, .lst 1 0 [], Bo false, .junk, .junk, .v (.map (some b)), .sl (2 * (gN c c.length).length - 1) [] 1 0 (gN c c.length).length false, Bo (allN c c.length), .junk, .junk, .junk, .junk, .junk, .junk, .junk, .junk, .junk, .junk, .junk, .junk, .junk, .junk, .junk, .junk, .junk, .junk, .junk, .junk, .junk, .junk, .junk, .junk, .junk, .junk, .junk, .junk, .junk, .junk, .junk, .junk, .junk, .junk, .junk, .junk, .junk, .junk, .junk, .junk, .junk, .junk, .junk, .junk, .junk, .junk, .junk, .junk, .junk, .junk, .junk, .junk, .junk, .junk, .junk, .junk, .junk, .junk, .junk, .junk, .junk, .junk, .junk, .junk, .junk, .junk, .junk, .junk, .junk, .junk, .junk, .junk, .junk, .junk, .junk, .junk, .junk] := rfl
      refine (congrArg (List.map _) hm).trans ?_
      simp only [List.map_cons, List.map_nil, e2]
      rfl
    rw [hren, htm] at w2
    refine .pre (w1.trans w2) (cutK ?_)
    conv => whnf
    have hlen : ((gN c c.length).map (·.1)).length = (gN c c.length).length := List.length_map ..
    have hso := sort_sound ((gN c c.length).map (·.1)) (by omega)
    rw [hlen] at hso
    refine callPartX [1] [obC b es (gN c c.length).length (cellsW (gN c c.length)), arrO (keysV c)] (rx := .tup []) hso rfl (by unfold renH; simp only [List.map_cons, List.map_nil]; exact congrArg (· :: []) (ren_int _ _)) rfl rfl rfl (by unfold flatH; simp [closed_cells]) (by unfold plug; show [_, mapOb _ (arrO (keysV c))] = _; rw [map_int]; rfl) rfl ?_
    (conv => whnf); (try (refine ⟨(rfl : (_ : Heap) = _), ?_⟩; (conv => whnf)))
    have hkl : (keysV c).length = (gN c c.length).length := by unfold keysV; rw [List.length_mergeSort, List.length_map]
    refine .inl ⟨rfl, _, _, ?_, ht⟩
    exact (Weak.freezeT 7 rfl rfl (.inr rfl) (by simp [hkl]) (fun r hr c hc => by obtain ⟨z, _, rfl⟩ := List.mem_map.1 hr; simp at hc; subst hc; exact ⟨rfl, rfl⟩)).trans (Weak.covD 1 (by (conv => whnf); (repeat (refine ⟨rfl, ?_⟩; (conv => whnf))); exact trivial) rfl rfl rfl (low_cells _ _ _ _ _) rfl)

theorem resultOpen (l : List Eve) (hl : l.length ≤ 1000) : SoundAt Try.prog 4 [] [lEv l] (if (Go.Cal.ofV l).2 ≠ 0 then .tup [.lst 1 0 [], Bo false] else .tup [lA (openP (Go.Cal.ofV l).1), Bo (allN (Go.Cal.ofV l).1 (Go.Cal.ofV l).1.length)]) [] := by
  have ho := Go.Cal.of_sound l (by omega)
  have hn := Go.Cal.ofV_len l
  generalize Go.Cal.ofV l = q at *
  obtain ⟨c, e⟩ := q
  dsimp only at hn
  refine SoundAt.of_cut1 (fn := Try.f4) Try.func4 rfl ?_
  refine cutK ?_
  conv => whnf
  refine .inl ⟨rfl, _, _, .refl _, cutK ?_⟩
  conv => whnf
  refine ⟨_, _, (ho).frame rfl _, ?_⟩; (conv => whnf); (try (refine ⟨(rfl : (_ : Heap) = _), ?_⟩; (conv => whnf)))
  refine .inl ⟨rfl, _, _, .refl _, cutK ?_⟩
  conv => whnf
  refine ⟨fun h1 => ?_, fun h1 => ?_⟩
  · (conv => whnf); (try (refine ⟨(rfl : (_ : Heap) = _), ?_⟩; (conv => whnf)))
    have he : e ≠ 0 := by simpa using h1
    rw [if_pos (show (c, e).2 ≠ 0 from he)]
    exact .inr ⟨by simp, .inl rfl, _, .refl _, rfl⟩
  · (conv => whnf); (try (refine ⟨(rfl : (_ : Heap) = _), ?_⟩; (conv => whnf)))
    have he : e = 0 := by simpa using h1
    rw [if_neg (show ¬ (c, e).2 ≠ 0 from fun h => h he)]
    refine .inl ⟨rfl, _, _, .refl _, cutK ?_⟩
    conv => whnf
    intro b
    (conv => whnf); (try (refine ⟨(rfl : (_ : Heap) = _), ?_⟩; (conv => whnf)))
    exact .inl ⟨rfl, _, _, Weak.mask [0, 2, 3, 4, 6] _ _, open_loop l c b (by omega) _ fun es X hE hX => open_mid l c b es X (by omega) hE hX⟩
end Go.Saf

/- Layer 28's reference: which requests are open. -/
namespace Go.Saf
open Go.Ab Go.Proofs Go.Hy Go.Pla
set_option linter.unusedVariables false
set_option linter.unusedSimpArgs false
set_option maxRecDepth 100000
set_option maxHeartbeats 4000000

theorem get_cal {c : List Cal} {k : Nat} (hk : k < c.length) : c[k]? = some (atCal c k) ∧ (c.map encCal)[k]? = some (encCal (atCal c k)) := by
  have h : c[k]? = some c[k] := List.getElem?_eq_getElem hk
  rw [atCal_eq h, List.getElem?_map]
  exact ⟨h, by rw [h]; rfl⟩
def bestC (o : Option Int) : Int := o.getD 0
theorem lst_succ (c : List Cal) (more : Int) (first : Bool) (k : Nat) : lstV c more first (k + 1) = if (first || decide (more < (atCal c k).thread)) && (match lstV c more first k with | none => true | some b => decide ((atCal c k).thread < b)) then some (atCal c k).thread else lstV c more first k := rfl
theorem least_sound (c : List Cal) (more : Int) (first : Bool) (hl : c.length < 1000000000000) : SoundAt Try.prog 18 [] [lCal c, I more, Bo first] (.tup [I (bestC (lstV c more first c.length)), Bo (lstV c more first c.length).isSome]) [] := by
  have m1 : (c.map encCal).length = c.length := List.length_map ..
  cases first with
  | true =>
    refine SoundAt.of_wpA1 (fn := Try.f18) Try.func18 rfl ?_
    conv => whnf
    refine Loops.seq c.length (fun k => [lCal c, I more, Bo true, .junk, .junk, .junk, I 0, Bo false, I (bestC (lstV c more true k)), Bo (lstV c more true k).isSome, I k, .junk, .junk, .junk, .junk, .junk, .junk, .junk, .junk, .junk, .junk, .junk, .junk, .junk, .junk, .junk, .junk, .junk, .junk, .junk, .junk, .junk, .junk, .junk, .junk, .junk, .junk, .junk, .junk, .junk, .junk, .junk, .junk, .junk, .junk, .junk, .junk]) (fun k => []) (fun _ => True) ?_ trivial (fun k hk _ => ?_) (fun _ => ?_)
    · exact Weak.cov (by (conv => whnf); (repeat (refine ⟨rfl, ?_⟩; (conv => whnf))); exact trivial)
    · have hst := lst_succ c more true k
      rw [Bool.true_or, Bool.true_and] at hst
      conv => whnf
      rw [m1]
      (refine ⟨fun _ => ?_, fun h => absurd h (by simp; omega)⟩); (conv => whnf); (try (refine ⟨(rfl : (_ : Heap) = _), ?_⟩; (conv => whnf)))
      cases hb : lstV c more true k with
      | none =>
        rw [hb] at hst
        simp only [if_true] at hst
        (conv => whnf); (try (refine ⟨(rfl : (_ : Heap) = _), ?_⟩; (conv => whnf)))
        (refine ⟨by omega, _, (get_cal (hk)).2, ?_⟩); (conv => whnf); (try (refine ⟨(rfl : (_ : Heap) = _), ?_⟩; (conv => whnf)))
        (refine .inl ⟨rfl, ?_, trivial⟩); rw [i64_nat (by omega), hst]; exact Weak.covD 0 (by (conv => whnf); (repeat (refine ⟨rfl, ?_⟩; (conv => whnf))); exact trivial) rfl rfl rfl rfl rfl
      | some b =>
        rw [hb] at hst
        (conv => whnf); (try (refine ⟨(rfl : (_ : Heap) = _), ?_⟩; (conv => whnf)))
        (refine ⟨by omega, _, (get_cal (hk)).2, ?_⟩); (conv => whnf); (try (refine ⟨(rfl : (_ : Heap) = _), ?_⟩; (conv => whnf)))
        refine ⟨fun h => ?_, fun h => ?_⟩
        · have hst : lstV c more true (k + 1) = some (atCal c k).thread := hst.trans (if_pos h)
          (conv => whnf); (try (refine ⟨(rfl : (_ : Heap) = _), ?_⟩; (conv => whnf)))
          (refine ⟨by omega, _, (get_cal (hk)).2, ?_⟩); (conv => whnf); (try (refine ⟨(rfl : (_ : Heap) = _), ?_⟩; (conv => whnf)))
          (refine .inl ⟨rfl, ?_, trivial⟩); rw [i64_nat (by omega), hst]; exact Weak.covD 0 (by (conv => whnf); (repeat (refine ⟨rfl, ?_⟩; (conv => whnf))); exact trivial) rfl rfl rfl rfl rfl
        · have hst : lstV c more true (k + 1) = some b := hst.trans (if_neg (fun h2 => by have h3 : decide ((atCal c k).thread < b) = true := h2; rw [show decide ((atCal c k).thread < b) = false from h] at h3; cases h3))
          (conv => whnf); (try (refine ⟨(rfl : (_ : Heap) = _), ?_⟩; (conv => whnf)))
          (refine .inl ⟨rfl, ?_, trivial⟩); rw [i64_nat (by omega), hst]; exact Weak.covD 0 (by (conv => whnf); (repeat (refine ⟨rfl, ?_⟩; (conv => whnf))); exact trivial) rfl rfl rfl rfl rfl
    · conv => whnf
      rw [m1]
      refine ⟨fun h => absurd h (by simp), fun _ => ?_⟩
      (conv => whnf); (try (refine ⟨(rfl : (_ : Heap) = _), ?_⟩; (conv => whnf)))
      refine ⟨by simp, ?_⟩
      conv => whnf
      cases lstV c more true c.length <;> exact ⟨.inl rfl, _, .refl _, rfl⟩
  | false =>
    refine SoundAt.of_wpA1 (fn := Try.f18) Try.func18 rfl ?_
    conv => whnf
    refine Loops.seq c.length (fun k => [lCal c, I more, Bo false, .junk, .junk, .junk, I 0, Bo false, I (bestC (lstV c more false k)), Bo (lstV c more false k).isSome, I k, .junk, .junk, .junk, .junk, .junk, .junk, .junk, .junk, .junk, .junk, .junk, .junk, .junk, .junk, .junk, .junk, .junk, .junk, .junk, .junk, .junk, .junk, .junk, .junk, .junk, .junk, .junk, .junk, .junk, .junk, .junk, .junk, .junk, .junk, .junk, .junk]) (fun k => []) (fun _ => True) ?_ trivial (fun k hk _ => ?_) (fun _ => ?_)
    · exact Weak.cov (by (conv => whnf); (repeat (refine ⟨rfl, ?_⟩; (conv => whnf))); exact trivial)
    · have hst := lst_succ c more false k
      rw [Bool.false_or] at hst
      conv => whnf
      rw [m1]
      (refine ⟨fun _ => ?_, fun h => absurd h (by simp; omega)⟩); (conv => whnf); (try (refine ⟨(rfl : (_ : Heap) = _), ?_⟩; (conv => whnf)))
      (refine ⟨by omega, _, (get_cal (hk)).2, ?_⟩); (conv => whnf); (try (refine ⟨(rfl : (_ : Heap) = _), ?_⟩; (conv => whnf)))
      refine ⟨fun h0 => ?_, fun h0 => ?_⟩
      · rw [show decide (more < (atCal c k).thread) = true from h0, Bool.true_and] at hst
        cases hb : lstV c more false k with
        | none =>
          rw [hb] at hst
          simp only [if_true] at hst
          (conv => whnf); (try (refine ⟨(rfl : (_ : Heap) = _), ?_⟩; (conv => whnf)))
          (refine ⟨by omega, _, (get_cal (hk)).2, ?_⟩); (conv => whnf); (try (refine ⟨(rfl : (_ : Heap) = _), ?_⟩; (conv => whnf)))
          (refine .inl ⟨rfl, ?_, trivial⟩); rw [i64_nat (by omega), hst]; exact Weak.covD 0 (by (conv => whnf); (repeat (refine ⟨rfl, ?_⟩; (conv => whnf))); exact trivial) rfl rfl rfl rfl rfl
        | some b =>
          rw [hb] at hst
          (conv => whnf); (try (refine ⟨(rfl : (_ : Heap) = _), ?_⟩; (conv => whnf)))
          (refine ⟨by omega, _, (get_cal (hk)).2, ?_⟩); (conv => whnf); (try (refine ⟨(rfl : (_ : Heap) = _), ?_⟩; (conv => whnf)))
          refine ⟨fun h => ?_, fun h => ?_⟩
          · have hst : lstV c more false (k + 1) = some (atCal c k).thread := hst.trans (if_pos h)
            (conv => whnf); (try (refine ⟨(rfl : (_ : Heap) = _), ?_⟩; (conv => whnf)))
            (refine ⟨by omega, _, (get_cal (hk)).2, ?_⟩); (conv => whnf); (try (refine ⟨(rfl : (_ : Heap) = _), ?_⟩; (conv => whnf)))
            (refine .inl ⟨rfl, ?_, trivial⟩); rw [i64_nat (by omega), hst]; exact Weak.covD 0 (by (conv => whnf); (repeat (refine ⟨rfl, ?_⟩; (conv => whnf))); exact trivial) rfl rfl rfl rfl rfl
          · have hst : lstV c more false (k + 1) = some b := hst.trans (if_neg (fun h2 => by have h3 : decide ((atCal c k).thread < b) = true := h2; rw [show decide ((atCal c k).thread < b) = false from h] at h3; cases h3))
            (conv => whnf); (try (refine ⟨(rfl : (_ : Heap) = _), ?_⟩; (conv => whnf)))
            (refine .inl ⟨rfl, ?_, trivial⟩); rw [i64_nat (by omega), hst]; exact Weak.covD 0 (by (conv => whnf); (repeat (refine ⟨rfl, ?_⟩; (conv => whnf))); exact trivial) rfl rfl rfl rfl rfl
      · rw [show decide (more < (atCal c k).thread) = false from h0, Bool.false_and] at hst
        simp only [Bool.false_eq_true, if_false] at hst
        (conv => whnf); (try (refine ⟨(rfl : (_ : Heap) = _), ?_⟩; (conv => whnf)))
        (refine .inl ⟨rfl, ?_, trivial⟩); rw [i64_nat (by omega), hst]; exact Weak.covD 0 (by (conv => whnf); (repeat (refine ⟨rfl, ?_⟩; (conv => whnf))); exact trivial) rfl rfl rfl rfl rfl
    · conv => whnf
      rw [m1]
      refine ⟨fun h => absurd h (by simp), fun _ => ?_⟩
      (conv => whnf); (try (refine ⟨(rfl : (_ : Heap) = _), ?_⟩; (conv => whnf)))
      refine ⟨by simp, ?_⟩
      conv => whnf
      cases lstV c more false c.length <;> exact ⟨.inl rfl, _, .refl _, rfl⟩
end Go.Saf

/- Layer 28's reference: which requests are open, whole. -/
namespace Go.Saf
open Go.Ab Go.Proofs Go.Hy Go.Pla
set_option linter.unusedVariables false
set_option linter.unusedSimpArgs false
set_option maxRecDepth 100000
set_option maxHeartbeats 4000000

theorem openP_le (c : List Cal) (hc : c.length ≤ 1000) : (openR c).length ≤ 1000000 := by
  rw [← open_eq]
  have h := outN_le c (keysV c).length (Nat.le_refl _)
  have e : outN c (keysV c).length = openP c := by unfold outN openP; rw [List.take_length]
  rw [e] at h
  have hk := keys_len c
  refine Nat.le_trans h (Nat.le_trans (Nat.mul_le_mul (show (keysV c).length ≤ 1000 by omega) hc) (Nat.le_refl _))
theorem ropen_sound (l : List Eve) (hl : l.length ≤ 1000) : SoundAt Try.prog 5 [] [lEv l] (if (Go.Cal.ofV l).2 ≠ 0 then .tup [.lst 1 0 [], Bo false] else .tup [lA (openR (Go.Cal.ofV l).1), Bo (allN (Go.Cal.ofV l).1 (Go.Cal.ofV l).1.length)]) [] := by
  have ho := Go.Cal.refOf_sound l (by omega)
  rw [Go.Cal.ref_of] at ho
  have hn := Go.Cal.ofV_len l
  generalize Go.Cal.ofV l = q at *
  obtain ⟨c, e⟩ := q
  dsimp only at hn
  have m1 : (c.map encCal).length = c.length := List.length_map ..
  refine SoundAt.of_wpA1 (fn := Try.f5) Try.func5 rfl ?_
  conv => whnf
  refine ⟨_, _, (ho).frame rfl _, ?_⟩; (conv => whnf); (try (refine ⟨(rfl : (_ : Heap) = _), ?_⟩; (conv => whnf)))
  refine ⟨fun h1 => ?_, fun h1 => ?_⟩
  · (conv => whnf); (try (refine ⟨(rfl : (_ : Heap) = _), ?_⟩; (conv => whnf)))
    have he : e ≠ 0 := by simpa using h1
    rw [if_pos (show (c, e).2 ≠ 0 from he)]
    exact ⟨.inl rfl, _, .refl _, rfl⟩
  have he : e = 0 := by simpa using h1
  rw [if_neg (show ¬ (c, e).2 ≠ 0 from fun h => h he)]
  (conv => whnf); (try (refine ⟨(rfl : (_ : Heap) = _), ?_⟩; (conv => whnf)))
  refine Loops.seq c.length (fun k => [.junk, .junk, .lst 1 0 [], Bo false, lCal c, .junk, .lst 1 13 [], Bo (allN c k), I k, .junk, .junk, .junk, .junk, .junk, .junk, .junk, .junk, .junk, .junk, .junk, .junk, .junk, .junk, .junk, .junk, .junk, .junk, .junk, .junk, .junk, .junk, .junk, .junk, .junk, .junk, .junk, .junk, .junk, .junk, .junk, .junk, .junk, .junk, .junk, .junk, .junk, .junk, .junk, .junk, .junk, .junk, .junk, .junk, .junk, .junk, .junk, .junk, .junk, .junk, .junk, .junk, .junk, .junk, .junk, .junk, .junk, .junk, .junk, .junk, .junk, .junk, .junk, .junk, .junk, .junk, .junk, .junk, .junk, .junk, .junk, .junk, .junk, .junk, .junk, .junk, .junk, .junk, .junk, .junk, .junk, .junk, .junk, .junk, .junk, .junk, .junk, .junk, .junk, .junk, .junk, .junk, .junk, .junk, .junk]) (fun k => []) (fun _ => True) ?_ trivial (fun k hk _ => ?_) (fun _ => ?_)
  · exact Weak.cov (by (conv => whnf); (repeat (refine ⟨rfl, ?_⟩; (conv => whnf))); exact trivial)
  · have hst : allN c (k + 1) = (allN c k && endedC (atCal c k)) := rfl
    conv => whnf
    rw [m1]
    (refine ⟨fun _ => ?_, fun h => absurd h (by simp; omega)⟩); (conv => whnf); (try (refine ⟨(rfl : (_ : Heap) = _), ?_⟩; (conv => whnf)))
    cases ha : allN c k with
    | false =>
      rw [ha, Bool.false_and] at hst
      (conv => whnf); (try (refine ⟨(rfl : (_ : Heap) = _), ?_⟩; (conv => whnf)))
      (refine .inl ⟨rfl, ?_, trivial⟩); rw [i64_nat (by omega), hst]; exact Weak.covD 0 (by (conv => whnf); (repeat (refine ⟨rfl, ?_⟩; (conv => whnf))); exact trivial) rfl rfl rfl rfl rfl
    | true =>
      rw [ha, Bool.true_and] at hst
      (conv => whnf); (try (refine ⟨(rfl : (_ : Heap) = _), ?_⟩; (conv => whnf)))
      (refine ⟨by omega, _, (get_cal (hk)).2, ?_⟩); (conv => whnf); (try (refine ⟨(rfl : (_ : Heap) = _), ?_⟩; (conv => whnf)))
      refine ⟨fun h => ?_, fun h => ?_⟩
      · have e1 : endedC (atCal c k) = true := by unfold endedC; have : 0 ≤ (atCal c k).to_ := by simpa using h
                                                  simp; omega
        rw [e1] at hst
        (conv => whnf); (try (refine ⟨(rfl : (_ : Heap) = _), ?_⟩; (conv => whnf)))
        (refine .inl ⟨rfl, ?_, trivial⟩); rw [i64_nat (by omega), hst]; exact Weak.covD 0 (by (conv => whnf); (repeat (refine ⟨rfl, ?_⟩; (conv => whnf))); exact trivial) rfl rfl rfl rfl rfl
      · have e1 : endedC (atCal c k) = false := by unfold endedC; have : ¬ 0 ≤ (atCal c k).to_ := by simpa using h
                                                   simp; omega
        rw [e1] at hst
        (conv => whnf); (try (refine ⟨(rfl : (_ : Heap) = _), ?_⟩; (conv => whnf)))
        (refine .inl ⟨rfl, ?_, trivial⟩); rw [i64_nat (by omega), hst]; exact Weak.covD 0 (by (conv => whnf); (repeat (refine ⟨rfl, ?_⟩; (conv => whnf))); exact trivial) rfl rfl rfl rfl rfl
  · conv => whnf
    rw [m1]
    refine ⟨fun h => absurd h (by simp), fun _ => ?_⟩
    (conv => whnf); (try (refine ⟨(rfl : (_ : Heap) = _), ?_⟩; (conv => whnf)))
    refine ⟨by simp, ?_⟩
    (conv => whnf); (try (refine ⟨(rfl : (_ : Heap) = _), ?_⟩; (conv => whnf)))
    refine ⟨_, _, (least_sound c 0 true (by omega)).frame rfl _, ?_⟩; (conv => whnf); (try (refine ⟨(rfl : (_ : Heap) = _), ?_⟩; (conv => whnf)))
    cases hs : lstV c 0 true c.length with
    | none =>
      have eo : openR c = [] := by unfold openR thrV; rw [hs]; rfl
      rw [eo]
      (conv => whnf); (try (refine ⟨(rfl : (_ : Heap) = _), ?_⟩; (conv => whnf)))
      (repeat (first | (refine ⟨fun _ => ?_, fun h => absurd h (by decide)⟩; (conv => whnf); (try (refine ⟨(rfl : (_ : Heap) = _), ?_⟩; (conv => whnf)))) | (refine ⟨fun h => absurd h (by decide), fun _ => ?_⟩; (conv => whnf); (try (refine ⟨(rfl : (_ : Heap) = _), ?_⟩; (conv => whnf))))))
      refine LoopK.ofN 1 (LoopN.step ?_)
      conv => whnf
      refine .inr ⟨by simp, ?_⟩
      conv => whnf
      cases allN c c.length <;> exact ⟨.inl rfl, _, Weak.cell 2 rfl (WC.nil 13 13), rfl⟩
    | some t0 =>
      have eo : openR c = (t0 :: tailV c t0).flatMap fun t => outT (givenV c t) := by unfold openR thrV; rw [hs]
      have hob := openP_le c (by omega)
      (conv => whnf); (try (refine ⟨(rfl : (_ : Heap) = _), ?_⟩; (conv => whnf)))
      refine ⟨fun _ => ?_, fun h => absurd h (by simp)⟩; (conv => whnf); (try (refine ⟨(rfl : (_ : Heap) = _), ?_⟩; (conv => whnf)))
      refine Loops.inv (fun n t1 H1 => ∃ (t : Int) (out : List Ans) (ok : Bool), t1 = [.junk, .junk, .lst 1 0 [], Bo false, lCal c, .junk, .gl 0 13 (rowsA out), Bo (allN c c.length), .junk, I t, Bo ok, .junk, .junk, .junk, .junk, .junk, .junk, .junk, .junk, .junk, .junk, .junk, .junk, .junk, .junk, .junk, .junk, .junk, .junk, .junk, .junk, .junk, .junk, .junk, .junk, .junk, .junk, .junk, .junk, .junk, .junk, .junk, .junk, .junk, .junk, .junk, .junk, .junk, .junk, .junk, .junk, .junk, .junk, .junk, .junk, .junk, .junk, .junk, .junk, .junk, .junk, .junk, .junk, .junk, .junk, .junk, .junk, .junk, .junk, .junk, .junk, .junk, .junk, .junk, .junk, .junk, .junk, .junk, .junk, .junk, .junk, .junk, .junk, .junk, .junk, .junk, .junk, .junk, .junk, .junk, .junk, .junk, .junk, .junk, .junk, .junk, .junk, .junk, .junk, .junk, .junk, .junk, .junk, .junk] ∧ H1 = [⟨4, 39, 13, rowsA (out), 0⟩] ∧ (ok = true → out ++ ((t :: tailV c t).flatMap fun t => outT (givenV c t)) = openR c ∧ n = cntGt c t + 1) ∧ (ok = false → out = openR c)) (cntGt c t0 + 1) ?_ ?_
      · exact ⟨_, _, (Weak.grow 6 39 13 rfl (.inl rfl)).trans (Weak.mask [2, 3, 4, 6, 7, 9, 10] _ _), t0, [], true, rfl, rfl, fun _ => ⟨by rw [eo]; rfl, rfl⟩, fun h => by cases h⟩
      rintro n _ _ ⟨t, out, ok, rfl, rfl, hin, hout⟩
      cases ok with
      | false =>
        have e1 := hout rfl
        conv => whnf
        refine .inr ⟨by simp, ?_⟩
        conv => whnf
        rw [e1]
        cases allN c c.length <;> exact ⟨.inl rfl, _, .refl _, rfl⟩
      | true =>
        obtain ⟨e1, hn1⟩ := hin rfl
        have hol : out.length ≤ 1000000 := by
          have := congrArg List.length e1
          rw [List.length_append] at this
          omega
        have hgle := given_le c t
        conv => whnf
        refine Loops.seq c.length (fun k => [.junk, .junk, .lst 1 0 [], Bo false, lCal c, .junk, .gl 0 13 (rowsA out), Bo (allN c c.length), .junk, I t, .junk, .gl 1 13 (rowsA (givenV (c.take k) t)), I k, .junk, .junk, .junk, .junk, .junk, .junk, .junk, .junk, .junk, .junk, .junk, .junk, .junk, .junk, .junk, .junk, .junk, .junk, .junk, .junk, .junk, .junk, .junk, .junk, .junk, .junk, .junk, .junk, .junk, .junk, .junk, .junk, .junk, .junk, .junk, .junk, .junk, .junk, .junk, .junk, .junk, .junk, .junk, .junk, .junk, .junk, .junk, .junk, .junk, .junk, .junk, .junk, .junk, .junk, .junk, .junk, .junk, .junk, .junk, .junk, .junk, .junk, .junk, .junk, .junk, .junk, .junk, .junk, .junk, .junk, .junk, .junk, .junk, .junk, .junk, .junk, .junk, .junk, .junk, .junk, .junk, .junk, .junk, .junk, .junk, .junk, .junk, .junk, .junk, .junk, .junk]) (fun k => [⟨4, 39, 13, rowsA (out), 0⟩, ⟨4, 39, 13, rowsA (givenV (c.take k) t), 0⟩]) (fun _ => True) ?_ trivial (fun k hk _ => ?_) (fun _ => ?_)
        · exact (Weak.grow 11 39 13 rfl (.inl rfl)).trans (Weak.cov (by (conv => whnf); (repeat (refine ⟨rfl, ?_⟩; (conv => whnf))); exact trivial))
        · have hst := given_take c k hk t
          have hkl := given_le (c.take k) t
          rw [List.length_take] at hkl
          conv => whnf
          rw [m1]
          (refine ⟨fun _ => ?_, fun h => absurd h (by simp; omega)⟩); (conv => whnf); (try (refine ⟨(rfl : (_ : Heap) = _), ?_⟩; (conv => whnf)))
          (refine ⟨by omega, _, (get_cal (hk)).2, ?_⟩); (conv => whnf); (try (refine ⟨(rfl : (_ : Heap) = _), ?_⟩; (conv => whnf)))
          refine ⟨fun h2 => ?_, fun h2 => ?_⟩
          · have ht2 : (atCal c k).thread = t := by simpa using h2
            (conv => whnf); (try (refine ⟨(rfl : (_ : Heap) = _), ?_⟩; (conv => whnf)))
            (refine ⟨by omega, _, (get_cal (hk)).2, ?_⟩); (conv => whnf); (try (refine ⟨(rfl : (_ : Heap) = _), ?_⟩; (conv => whnf)))
            refine ⟨fun h3 => ?_, fun h3 => ?_⟩
            · have h4 : 0 ≤ (atCal c k).to_ := by simpa using h3
              have e2 : endedC (atCal c k) = true := by unfold endedC; simp; omega
              rw [if_pos ⟨ht2, e2⟩] at hst
              (conv => whnf); (try (refine ⟨(rfl : (_ : Heap) = _), ?_⟩; (conv => whnf)))
              (refine ⟨by omega, _, (get_cal (hk)).2, ?_⟩); (conv => whnf); (try (refine ⟨(rfl : (_ : Heap) = _), ?_⟩; (conv => whnf)))
              refine ⟨rfl, .inr rfl, by simp [maxLen]; omega, by show _ * 104 ≤ _; simp; omega, ?_⟩
              (conv => whnf); (try (refine ⟨(rfl : (_ : Heap) = _), ?_⟩; (conv => whnf)))
              have er : rowsA (givenV (c.take (k + 1)) t) = rowsA (givenV (c.take k) t) ++ [encA (atCal c k).answer] := by rw [hst]; simp
              refine .inl ⟨rfl, ?_, trivial⟩
              rw [i64_nat (by omega), er]
              exact Weak.cov (by (conv => whnf); (repeat (refine ⟨rfl, ?_⟩; (conv => whnf))); exact trivial)
            · have h4 : ¬ 0 ≤ (atCal c k).to_ := by simpa using h3
              have e2 : ¬ ((atCal c k).thread = t ∧ endedC (atCal c k) = true) := by unfold endedC; simp; omega
              rw [if_neg e2, List.append_nil] at hst
              (conv => whnf); (try (refine ⟨(rfl : (_ : Heap) = _), ?_⟩; (conv => whnf)))
              refine .inl ⟨rfl, ?_, trivial⟩
              rw [i64_nat (by omega), hst]
              exact Weak.cov (by (conv => whnf); (repeat (refine ⟨rfl, ?_⟩; (conv => whnf))); exact trivial)
          · have ht2 : ¬ (atCal c k).thread = t := by simpa using h2
            rw [if_neg (fun h => ht2 h.1), List.append_nil] at hst
            (conv => whnf); (try (refine ⟨(rfl : (_ : Heap) = _), ?_⟩; (conv => whnf)))
            refine .inl ⟨rfl, ?_, trivial⟩
            rw [i64_nat (by omega), hst]
            exact Weak.cov (by (conv => whnf); (repeat (refine ⟨rfl, ?_⟩; (conv => whnf))); exact trivial)
        · conv => whnf
          rw [m1]
          refine ⟨fun h => absurd h (by simp), fun _ => ?_⟩
          (conv => whnf); (try (refine ⟨(rfl : (_ : Heap) = _), ?_⟩; (conv => whnf)))
          refine ⟨by simp, ?_⟩
          (conv => whnf); (try (refine ⟨(rfl : (_ : Heap) = _), ?_⟩; (conv => whnf)))
          rw [List.take_length]
          obtain ⟨g, hg⟩ : ∃ g, g = givenV c t := ⟨_, rfl⟩
          rw [← hg] at hgle ⊢
          have hrop := openR_sound g (by omega)
          refine ⟨_, _, (hrop).frame rfl _, ?_⟩; (conv => whnf); (try (refine ⟨(rfl : (_ : Heap) = _), ?_⟩; (conv => whnf)))
          have m2 : (((openV g).map fun (n : Nat) => (n : Int)).map Hy.encI).length = (openV g).length := by simp
          have hov : (openV g).length ≤ g.length := openN_len g _
          refine Loops.seq (openV g).length (fun j => [.junk, .junk, .lst 1 0 [], Bo false, lCal c, .junk, .gl 0 13 (rowsA (out ++ ((openV g).take j).map (atAns g))), Bo (allN c c.length), .junk, I t, .junk, .gl 1 13 (rowsA g), .junk, lI ((openV g).map fun (n : Nat) => (n : Int)), I j, .junk, .junk, .junk, .junk, .junk, .junk, .junk, .junk, .junk, .junk, .junk, .junk, .junk, .junk, .junk, .junk, .junk, .junk, .junk, .junk, .junk, .junk, .junk, .junk, .junk, .junk, .junk, .junk, .junk, .junk, .junk, .junk, .junk, .junk, .junk, .junk, .junk, .junk, .junk, .junk, .junk, .junk, .junk, .junk, .junk, .junk, .junk, .junk, .junk, .junk, .junk, .junk, .junk, .junk, .junk, .junk, .junk, .junk, .junk, .junk, .junk, .junk, .junk, .junk, .junk, .junk, .junk, .junk, .junk, .junk, .junk, .junk, .junk, .junk, .junk, .junk, .junk, .junk, .junk, .junk, .junk, .junk, .junk, .junk, .junk, .junk, .junk, .junk, .junk]) (fun j => [⟨4, 39, 13, rowsA (out ++ ((openV g).take j).map (atAns g)), 0⟩, ⟨4, 39, 13, rowsA (g), 0⟩]) (fun _ => True) ?_ trivial (fun j hj _ => ?_) (fun _ => ?_)
          · rw [List.take_zero, List.map_nil, List.append_nil]
            exact Weak.cov (by (conv => whnf); (repeat (refine ⟨rfl, ?_⟩; (conv => whnf))); exact trivial)
          · have hqj : (openV g)[j]? = some (openV g)[j] := List.getElem?_eq_getElem hj
            have hnl := openN_lt g _ (Nat.le_refl _) _ (List.getElem_mem hj)
            generalize (openV g)[j] = m at hqj hnl
            have gj : (((openV g).map fun (n : Nat) => (n : Int)).map Hy.encI)[j]? = some (Hy.encI m) := by rw [List.getElem?_map, List.getElem?_map, hqj]; rfl
            have hb : g[m]? = some g[m] := List.getElem?_eq_getElem hnl
            have hat : atAns g m = g[m] := by unfold atAns; rw [hb]; rfl
            generalize g[m] = a at hb hat
            have gb : (rowsA g)[m]? = some (encA a) := by rw [List.getElem?_map, hb]; rfl
            have htk : ((openV g).take (j + 1)).map (atAns g) = ((openV g).take j).map (atAns g) ++ [a] := by rw [List.take_add_one, hqj, List.map_append]; simp [hat]
            have hlt : ((openV g).take j).length ≤ 1000 := by rw [List.length_take]; omega
            conv => whnf
            rw [m2]
            (refine ⟨fun _ => ?_, fun h => absurd h (by simp; omega)⟩); (conv => whnf); (try (refine ⟨(rfl : (_ : Heap) = _), ?_⟩; (conv => whnf)))
            refine ⟨by omega, _, gj, ?_⟩
            (conv => whnf); (try (refine ⟨(rfl : (_ : Heap) = _), ?_⟩; (conv => whnf)))
            refine ⟨by omega, _, gb, ?_⟩
            (conv => whnf); (try (refine ⟨(rfl : (_ : Heap) = _), ?_⟩; (conv => whnf)))
            refine ⟨rfl, .inr rfl, by simp [maxLen]; omega, by show _ * 104 ≤ _; simp; omega, ?_⟩
            (conv => whnf); (try (refine ⟨(rfl : (_ : Heap) = _), ?_⟩; (conv => whnf)))
            have er : rowsA (out ++ ((openV g).take (j + 1)).map (atAns g)) = rowsA (out ++ ((openV g).take j).map (atAns g)) ++ [encA a] := by rw [htk]; simp
            refine .inl ⟨rfl, ?_, trivial⟩
            rw [i64_nat (by omega), er]
            exact Weak.cov (by (conv => whnf); (repeat (refine ⟨rfl, ?_⟩; (conv => whnf))); exact trivial)
          · conv => whnf
            rw [m2]
            refine ⟨fun h => absurd h (by simp), fun _ => ?_⟩
            (conv => whnf); (try (refine ⟨(rfl : (_ : Heap) = _), ?_⟩; (conv => whnf)))
            refine ⟨by simp, ?_⟩
            (conv => whnf); (try (refine ⟨(rfl : (_ : Heap) = _), ?_⟩; (conv => whnf)))
            refine ⟨_, _, (least_sound c t false (by omega)).frame rfl _, ?_⟩; (conv => whnf); (try (refine ⟨(rfl : (_ : Heap) = _), ?_⟩; (conv => whnf)))
            rw [List.take_length]
            have ef : outT (givenV c t) = (openV g).map (atAns g) := by rw [← hg]; rfl
            rw [List.flatMap_cons, ef] at e1
            cases hs2 : lstV c t false c.length with
            | none =>
              rw [tail_none hs2, List.flatMap_nil, List.append_nil] at e1
              (conv => whnf); (try (refine ⟨(rfl : (_ : Heap) = _), ?_⟩; (conv => whnf)))
              (repeat (first | (refine ⟨fun _ => ?_, fun h => absurd h (by decide)⟩; (conv => whnf); (try (refine ⟨(rfl : (_ : Heap) = _), ?_⟩; (conv => whnf)))) | (refine ⟨fun h => absurd h (by decide), fun _ => ?_⟩; (conv => whnf); (try (refine ⟨(rfl : (_ : Heap) = _), ?_⟩; (conv => whnf))))))
              exact .inl ⟨rfl, 0, _, _, by omega, Weak.ren [0] [2, 3, 4, 6, 7, 9, 10] _ _ rfl rfl rfl rfl, 0, out ++ (openV g).map (atAns g), false, rfl, rfl, (fun h => by cases h), fun _ => e1⟩
            | some t2 =>
              rw [tail_some hs2] at e1
              have hc2 := cnt_less hs2
              (conv => whnf); (try (refine ⟨(rfl : (_ : Heap) = _), ?_⟩; (conv => whnf)))
              refine ⟨fun _ => ?_, fun h => absurd h (by simp)⟩; (conv => whnf); (try (refine ⟨(rfl : (_ : Heap) = _), ?_⟩; (conv => whnf)))
              exact .inl ⟨rfl, cntGt c t2 + 1, _, _, by omega, Weak.ren [0] [2, 3, 4, 6, 7, 9, 10] _ _ rfl rfl rfl rfl, t2, out ++ (openV g).map (atAns g), true, rfl, rfl, fun _ => ⟨by rw [List.append_assoc]; exact e1, rfl⟩, fun h => by cases h⟩
end Go.Saf

/- Layer 28: SafeTells. -/
namespace Go.Saf
open Go.Ab Go.Proofs Go.Hy Go.Pla
set_option linter.unusedVariables false
set_option linter.unusedSimpArgs false
set_option maxRecDepth 100000
set_option maxHeartbeats 4000000

/-- A row is the same as itself. -/
theorem sameA_sound (a : List Ans) (ha : a.length < 4611686018427387904) : SoundAt Try.prog 13 [] [lA a, lA a] (Bo true) [] := by
  have m1 : (a.map encA).length = a.length := List.length_map ..
  refine SoundAt.of_wpA1 (fn := Try.f13) Try.func13 rfl ?_
  conv => whnf
  refine ⟨fun h => absurd h (by simp), fun _ => ?_⟩
  (conv => whnf); (try (refine ⟨(rfl : (_ : Heap) = _), ?_⟩; (conv => whnf)))
  refine Loops.seq a.length (fun k => [lA a, lA a, .junk, .junk, Bo false, I k, .junk, .junk, .junk, .junk, .junk, .junk, .junk, .junk, .junk, .junk, .junk, .junk, .junk, .junk, .junk, .junk, .junk, .junk, .junk, .junk]) (fun k => []) (fun _ => True) ?_ trivial (fun k hk _ => ?_) (fun _ => ?_)
  · exact Weak.cov (by (conv => whnf); (repeat (refine ⟨rfl, ?_⟩; (conv => whnf))); exact trivial)
  · have gq : (a.map encA)[k]? = some (encA a[k]) := by rw [List.getElem?_map, List.getElem?_eq_getElem hk]; rfl
    generalize a[k] = x at gq
    conv => whnf
    rw [m1]
    (refine ⟨fun _ => ?_, fun h => absurd h (by simp; omega)⟩); (conv => whnf); (try (refine ⟨(rfl : (_ : Heap) = _), ?_⟩; (conv => whnf)))
    refine .inl ⟨⟨false, [], [], []⟩, by kernel_rfl, ?_⟩; (conv => whnf)
    refine ⟨by omega, _, gq, ?_⟩
    (conv => whnf); (try (refine ⟨(rfl : (_ : Heap) = _), ?_⟩; (conv => whnf)))
    refine ⟨by omega, _, gq, ?_⟩
    (conv => whnf); (try (refine ⟨(rfl : (_ : Heap) = _), ?_⟩; (conv => whnf)))
    refine ⟨by kernel_rfl, ?_⟩
    (conv => whnf); (try (refine ⟨(rfl : (_ : Heap) = _), ?_⟩; (conv => whnf)))
    refine ⟨fun h => ?_, fun _ => ?_⟩
    · exfalso
      revert h
      simp
    (conv => whnf); (try (refine ⟨(rfl : (_ : Heap) = _), ?_⟩; (conv => whnf)))
    refine .inl ⟨rfl, ?_, trivial⟩
    rw [i64_nat (by omega)]
    exact Weak.covD 0 (by (conv => whnf); (repeat (refine ⟨rfl, ?_⟩; (conv => whnf))); exact trivial) rfl rfl rfl rfl rfl
  · conv => whnf
    rw [m1]
    refine ⟨fun h => absurd h (by simp), fun _ => ?_⟩
    (conv => whnf); (try (refine ⟨(rfl : (_ : Heap) = _), ?_⟩; (conv => whnf)))
    refine ⟨by simp, ?_⟩
    conv => whnf
    exact ⟨.inl rfl, _, .refl _, rfl⟩

abbrev ansR (s : Int) : Ans := ⟨1, 0, 0, 0, s, 0, 0, six0⟩
abbrev ans0 : Ans := ⟨0, 0, 0, 0, 0, 0, 0, six0⟩
abbrev e0 : Eve := ⟨0, 0, 1, 3, 0, false, 3, true, false, false, ans0⟩
abbrev e1 : Eve := ⟨1, 0, 2, 12, 0, false, 3, true, false, true, ansR 0⟩
abbrev e2 : Eve := ⟨0, 0, 1, 0, 0, true, 0, false, false, false, ans0⟩
abbrev e3 : Eve := ⟨0, 0, 0, 0, 0, false, 0, false, false, true, ansR 1⟩
abbrev e4 : Eve := ⟨1, 1, 2, 12, 0, false, 3, true, false, false, ans0⟩
abbrev plainL : List Eve := [e0, e1, e2, e3, e4]
theorem plain_sound : SoundAt Try.prog 20 [] [] (.lst 1 23 (plainL.map encEv)) [] := by
  refine SoundAt.of_wpA1 (fn := Try.f20) Try.func20 rfl ?_
  conv => whnf
  exact ⟨.inl rfl, _, .refl _, rfl⟩
abbrev c0 : Cal := ⟨0, 0, 0, -1, 3, ansR 1⟩
abbrev c1 : Cal := ⟨1, 0, 1, -1, 1, ansR 0⟩
abbrev c2 : Cal := ⟨1, 1, 4, -1, -1, ans0⟩
theorem of0 : Go.Cal.ofV plainL = ([c0, c1, c2], 0) := by kernel_rfl
theorem of1 : Go.Cal.ofV [e0, e1, e2, e3] = ([c0, c1], 0) := by kernel_rfl
theorem of2 : Go.Cal.ofV [e1, e2] = ([], 11) := by kernel_rfl
theorem t0 : touchV plainL = 1 := by kernel_rfl
theorem t1 : twiceV plainL = 1 := by kernel_rfl
theorem t2 : earlyV plainL = 1 := by kernel_rfl
theorem open0 : openP [c0, c1, c2] = [ansR 1, ansR 0] := by
  have e : keysV [c0, c1, c2] = [0, 1] := by
    have h : ((gN [c0, c1, c2] [c0, c1, c2].length).map (·.1)) = [0, 1] := by kernel_rfl
    unfold keysV
    rw [h]
    exact List.mergeSort_of_pairwise (by decide)
  unfold openP
  rw [e]
  rfl
theorem open1 : openP [c0, c1] = [ansR 1, ansR 0] := by
  have e : keysV [c0, c1] = [0, 1] := by
    have h : ((gN [c0, c1] [c0, c1].length).map (·.1)) = [0, 1] := by kernel_rfl
    unfold keysV
    rw [h]
    exact List.mergeSort_of_pairwise (by decide)
  unfold openP
  rw [e]
  rfl

theorem o0 : SoundAt Try.prog 4 [] [lEv plainL] (.tup [lA [ansR 1, ansR 0], Bo false]) [] := by
  have h := resultOpen plainL (by decide)
  rw [of0, if_neg (by decide), show openP ([c0, c1, c2], (0 : Int)).1 = _ from open0] at h
  exact h
theorem o1 : SoundAt Try.prog 4 [] [lEv [e0, e1, e2, e3]] (.tup [lA [ansR 1, ansR 0], Bo true]) [] := by
  have h := resultOpen [e0, e1, e2, e3] (by decide)
  rw [of1, if_neg (by decide), show openP ([c0, c1], (0 : Int)).1 = _ from open1] at h
  exact h
theorem o2 : SoundAt Try.prog 4 [] [lEv [e1, e2]] (.tup [.lst 1 0 [], Bo false]) [] := by
  have h := resultOpen [e1, e2] (by decide)
  rw [of2, if_pos (by decide)] at h
  exact h
theorem told_sound : SoundAt Try.prog 6 [] [] (Bo true) [] := by
  have htv := touches_sound plainL (by decide)
  rw [t0] at htv
  have htw := twice_sound plainL (by decide)
  rw [t1] at htw
  have hea := early_sound plainL (by decide)
  rw [t2] at hea
  have hen := early_sound [] (by decide)
  have w23 : ∀ l : List Eve, WCs [C.lst 1 23 (l.map encEv)] [lEv l] := fun l => .cons (.share 1 23 _) .nil
  refine SoundAt.of_wpA1 (fn := Try.f6) Try.func6 rfl ?_
  conv => whnf
  refine ⟨_, _, (plain_sound).frame rfl _, ?_⟩; (conv => whnf); (try (refine ⟨(rfl : (_ : Heap) = _), ?_⟩; (conv => whnf)))
  refine ⟨_, _, (o0.pre (w23 plainL)).frame rfl _, ?_⟩; (conv => whnf); (try (refine ⟨(rfl : (_ : Heap) = _), ?_⟩; (conv => whnf)))
  (repeat (first | (refine ⟨fun _ => ?_, fun h => absurd h (by decide)⟩; (conv => whnf); (try (refine ⟨(rfl : (_ : Heap) = _), ?_⟩; (conv => whnf)))) | (refine ⟨fun h => absurd h (by decide), fun _ => ?_⟩; (conv => whnf); (try (refine ⟨(rfl : (_ : Heap) = _), ?_⟩; (conv => whnf))))))
  refine ⟨.inr rfl, ?_⟩
  (conv => whnf); (try (refine ⟨(rfl : (_ : Heap) = _), ?_⟩; (conv => whnf)))
  refine ⟨by decide, ?_⟩
  (conv => whnf); (try (refine ⟨(rfl : (_ : Heap) = _), ?_⟩; (conv => whnf)))
  refine ⟨by decide, by decide, ?_⟩
  (conv => whnf); (try (refine ⟨(rfl : (_ : Heap) = _), ?_⟩; (conv => whnf)))
  refine ⟨_, _, (o1).frame rfl _, ?_⟩; (conv => whnf); (try (refine ⟨(rfl : (_ : Heap) = _), ?_⟩; (conv => whnf)))
  (repeat (first | (refine ⟨fun _ => ?_, fun h => absurd h (by decide)⟩; (conv => whnf); (try (refine ⟨(rfl : (_ : Heap) = _), ?_⟩; (conv => whnf)))) | (refine ⟨fun h => absurd h (by decide), fun _ => ?_⟩; (conv => whnf); (try (refine ⟨(rfl : (_ : Heap) = _), ?_⟩; (conv => whnf))))))
  refine ⟨.inr rfl, ?_⟩
  (conv => whnf); (try (refine ⟨(rfl : (_ : Heap) = _), ?_⟩; (conv => whnf)))
  refine ⟨by decide, ?_⟩
  (conv => whnf); (try (refine ⟨(rfl : (_ : Heap) = _), ?_⟩; (conv => whnf)))
  refine ⟨by decide, ?_⟩
  (conv => whnf); (try (refine ⟨(rfl : (_ : Heap) = _), ?_⟩; (conv => whnf)))
  refine ⟨by decide, by decide, ?_⟩
  (conv => whnf); (try (refine ⟨(rfl : (_ : Heap) = _), ?_⟩; (conv => whnf)))
  refine ⟨_, _, (o2).frame rfl _, ?_⟩; (conv => whnf); (try (refine ⟨(rfl : (_ : Heap) = _), ?_⟩; (conv => whnf)))
  (repeat (first | (refine ⟨fun _ => ?_, fun h => absurd h (by decide)⟩; (conv => whnf); (try (refine ⟨(rfl : (_ : Heap) = _), ?_⟩; (conv => whnf)))) | (refine ⟨fun h => absurd h (by decide), fun _ => ?_⟩; (conv => whnf); (try (refine ⟨(rfl : (_ : Heap) = _), ?_⟩; (conv => whnf))))))
  refine ⟨_, _, (htv.pre (w23 plainL)).frame rfl _, ?_⟩; (conv => whnf); (try (refine ⟨(rfl : (_ : Heap) = _), ?_⟩; (conv => whnf)))
  (repeat (first | (refine ⟨fun _ => ?_, fun h => absurd h (by decide)⟩; (conv => whnf); (try (refine ⟨(rfl : (_ : Heap) = _), ?_⟩; (conv => whnf)))) | (refine ⟨fun h => absurd h (by decide), fun _ => ?_⟩; (conv => whnf); (try (refine ⟨(rfl : (_ : Heap) = _), ?_⟩; (conv => whnf))))))
  refine ⟨_, _, (htw.pre (w23 plainL)).frame rfl _, ?_⟩; (conv => whnf); (try (refine ⟨(rfl : (_ : Heap) = _), ?_⟩; (conv => whnf)))
  (repeat (first | (refine ⟨fun _ => ?_, fun h => absurd h (by decide)⟩; (conv => whnf); (try (refine ⟨(rfl : (_ : Heap) = _), ?_⟩; (conv => whnf)))) | (refine ⟨fun h => absurd h (by decide), fun _ => ?_⟩; (conv => whnf); (try (refine ⟨(rfl : (_ : Heap) = _), ?_⟩; (conv => whnf))))))
  refine ⟨_, _, (hea.pre (w23 plainL)).frame rfl _, ?_⟩; (conv => whnf); (try (refine ⟨(rfl : (_ : Heap) = _), ?_⟩; (conv => whnf)))
  (repeat (first | (refine ⟨fun _ => ?_, fun h => absurd h (by decide)⟩; (conv => whnf); (try (refine ⟨(rfl : (_ : Heap) = _), ?_⟩; (conv => whnf)))) | (refine ⟨fun h => absurd h (by decide), fun _ => ?_⟩; (conv => whnf); (try (refine ⟨(rfl : (_ : Heap) = _), ?_⟩; (conv => whnf))))))
  refine ⟨_, _, ((sameA_sound [ansR 1, ansR 0] (by decide)).pre (.cons (.refl _) (.cons (.share 1 13 _) .nil))).frame rfl _, ?_⟩; (conv => whnf); (try (refine ⟨(rfl : (_ : Heap) = _), ?_⟩; (conv => whnf)))
  (repeat (first | (refine ⟨fun _ => ?_, fun h => absurd h (by decide)⟩; (conv => whnf); (try (refine ⟨(rfl : (_ : Heap) = _), ?_⟩; (conv => whnf)))) | (refine ⟨fun h => absurd h (by decide), fun _ => ?_⟩; (conv => whnf); (try (refine ⟨(rfl : (_ : Heap) = _), ?_⟩; (conv => whnf))))))
  refine ⟨_, _, (sameA_sound [ansR 1, ansR 0] (by decide)).frame rfl _, ?_⟩; (conv => whnf); (try (refine ⟨(rfl : (_ : Heap) = _), ?_⟩; (conv => whnf)))
  (repeat (first | (refine ⟨fun _ => ?_, fun h => absurd h (by decide)⟩; (conv => whnf); (try (refine ⟨(rfl : (_ : Heap) = _), ?_⟩; (conv => whnf)))) | (refine ⟨fun h => absurd h (by decide), fun _ => ?_⟩; (conv => whnf); (try (refine ⟨(rfl : (_ : Heap) = _), ?_⟩; (conv => whnf))))))
  refine ⟨_, _, (hen.pre (.cons (.nil 0 23) .nil)).frame rfl _, ?_⟩; (conv => whnf); (try (refine ⟨(rfl : (_ : Heap) = _), ?_⟩; (conv => whnf)))
  (repeat (first | (refine ⟨fun _ => ?_, fun h => absurd h (by decide)⟩; (conv => whnf); (try (refine ⟨(rfl : (_ : Heap) = _), ?_⟩; (conv => whnf)))) | (refine ⟨fun h => absurd h (by decide), fun _ => ?_⟩; (conv => whnf); (try (refine ⟨(rfl : (_ : Heap) = _), ?_⟩; (conv => whnf))))))
  exact ⟨.inl rfl, _, .refl _, rfl⟩
theorem tells_sound (l : List Eve) (hl : l.length < 1000000000000) : SoundAt Try.prog 3 [] [lEv l] (Bo true) [] := by
  have m1 : (l.map encEv).length = l.length := List.length_map ..
  refine SoundAt.of_wpA1 (fn := Try.f3) Try.func3 rfl ?_
  conv => whnf
  rw [m1]
  refine ⟨fun h => ?_, fun h => ?_⟩
  · (conv => whnf); (try (refine ⟨(rfl : (_ : Heap) = _), ?_⟩; (conv => whnf)))
    exact ⟨.inl rfl, _, .refl _, rfl⟩
  have hs : l.length ≤ 60 := by simp at h; omega
  (conv => whnf); (try (refine ⟨(rfl : (_ : Heap) = _), ?_⟩; (conv => whnf)))
  have h1 := resultOpen l (by omega)
  have h2 := ropen_sound l (by omega)
  have hc := Go.Cal.ofV_len l
  rw [open_eq] at h1
  have hol := openP_le (Go.Cal.ofV l).1 (by omega)
  generalize Go.Cal.ofV l = q at *
  have hrt := rtwice_sound l hl
  rw [← twice_eq] at hrt
  have hre := rearly_sound l hl
  rw [← early_eq] at hre
  by_cases he : q.2 ≠ 0
  · rw [if_pos he] at h1 h2
    refine ⟨_, _, (h1).frame rfl _, ?_⟩; (conv => whnf); (try (refine ⟨(rfl : (_ : Heap) = _), ?_⟩; (conv => whnf)))
    (repeat (first | (refine ⟨fun _ => ?_, fun h => absurd h (by decide)⟩; (conv => whnf); (try (refine ⟨(rfl : (_ : Heap) = _), ?_⟩; (conv => whnf)))) | (refine ⟨fun h => absurd h (by decide), fun _ => ?_⟩; (conv => whnf); (try (refine ⟨(rfl : (_ : Heap) = _), ?_⟩; (conv => whnf))))))
    refine ⟨_, _, (h2).frame rfl _, ?_⟩; (conv => whnf); (try (refine ⟨(rfl : (_ : Heap) = _), ?_⟩; (conv => whnf)))
    (repeat (first | (refine ⟨fun _ => ?_, fun h => absurd h (by decide)⟩; (conv => whnf); (try (refine ⟨(rfl : (_ : Heap) = _), ?_⟩; (conv => whnf)))) | (refine ⟨fun h => absurd h (by decide), fun _ => ?_⟩; (conv => whnf); (try (refine ⟨(rfl : (_ : Heap) = _), ?_⟩; (conv => whnf))))))
    refine ⟨_, _, (told_sound).frame rfl _, ?_⟩; (conv => whnf); (try (refine ⟨(rfl : (_ : Heap) = _), ?_⟩; (conv => whnf)))
    (repeat (first | (refine ⟨fun _ => ?_, fun h => absurd h (by decide)⟩; (conv => whnf); (try (refine ⟨(rfl : (_ : Heap) = _), ?_⟩; (conv => whnf)))) | (refine ⟨fun h => absurd h (by decide), fun _ => ?_⟩; (conv => whnf); (try (refine ⟨(rfl : (_ : Heap) = _), ?_⟩; (conv => whnf))))))
    refine ⟨_, _, (touches_sound l hl).frame rfl _, ?_⟩; (conv => whnf); (try (refine ⟨(rfl : (_ : Heap) = _), ?_⟩; (conv => whnf)))
    refine ⟨_, _, (rtouches_sound l hl).frame rfl _, ?_⟩; (conv => whnf); (try (refine ⟨(rfl : (_ : Heap) = _), ?_⟩; (conv => whnf)))
    refine ⟨fun _ => ?_, fun h => absurd h (by simp)⟩
    (conv => whnf); (try (refine ⟨(rfl : (_ : Heap) = _), ?_⟩; (conv => whnf)))
    refine ⟨_, _, (twice_sound l hl).frame rfl _, ?_⟩; (conv => whnf); (try (refine ⟨(rfl : (_ : Heap) = _), ?_⟩; (conv => whnf)))
    refine ⟨_, _, (hrt).frame rfl _, ?_⟩; (conv => whnf); (try (refine ⟨(rfl : (_ : Heap) = _), ?_⟩; (conv => whnf)))
    refine ⟨fun _ => ?_, fun h => absurd h (by simp)⟩
    (conv => whnf); (try (refine ⟨(rfl : (_ : Heap) = _), ?_⟩; (conv => whnf)))
    refine ⟨_, _, (early_sound l hl).frame rfl _, ?_⟩; (conv => whnf); (try (refine ⟨(rfl : (_ : Heap) = _), ?_⟩; (conv => whnf)))
    refine ⟨_, _, (hre).frame rfl _, ?_⟩; (conv => whnf); (try (refine ⟨(rfl : (_ : Heap) = _), ?_⟩; (conv => whnf)))
    refine ⟨fun _ => ?_, fun h => absurd h (by simp)⟩
    (conv => whnf); (try (refine ⟨(rfl : (_ : Heap) = _), ?_⟩; (conv => whnf)))
    refine ⟨_, _, ((sameA_sound [] (by decide)).pre (.cons (.nil 0 13) (.cons (.nil 0 13) .nil))).frame rfl _, ?_⟩; (conv => whnf); (try (refine ⟨(rfl : (_ : Heap) = _), ?_⟩; (conv => whnf)))
    (repeat (first | (refine ⟨fun _ => ?_, fun h => absurd h (by decide)⟩; (conv => whnf); (try (refine ⟨(rfl : (_ : Heap) = _), ?_⟩; (conv => whnf)))) | (refine ⟨fun h => absurd h (by decide), fun _ => ?_⟩; (conv => whnf); (try (refine ⟨(rfl : (_ : Heap) = _), ?_⟩; (conv => whnf))))))
    exact ⟨.inl rfl, _, .refl _, rfl⟩
  · rw [if_neg he] at h1 h2
    generalize allN q.1 q.1.length = bb at h1 h2
    cases bb with
    | true =>
      refine ⟨_, _, (h1).frame rfl _, ?_⟩; (conv => whnf); (try (refine ⟨(rfl : (_ : Heap) = _), ?_⟩; (conv => whnf)))
      (repeat (first | (refine ⟨fun _ => ?_, fun h => absurd h (by decide)⟩; (conv => whnf); (try (refine ⟨(rfl : (_ : Heap) = _), ?_⟩; (conv => whnf)))) | (refine ⟨fun h => absurd h (by decide), fun _ => ?_⟩; (conv => whnf); (try (refine ⟨(rfl : (_ : Heap) = _), ?_⟩; (conv => whnf))))))
      refine ⟨_, _, (h2).frame rfl _, ?_⟩; (conv => whnf); (try (refine ⟨(rfl : (_ : Heap) = _), ?_⟩; (conv => whnf)))
      (repeat (first | (refine ⟨fun _ => ?_, fun h => absurd h (by decide)⟩; (conv => whnf); (try (refine ⟨(rfl : (_ : Heap) = _), ?_⟩; (conv => whnf)))) | (refine ⟨fun h => absurd h (by decide), fun _ => ?_⟩; (conv => whnf); (try (refine ⟨(rfl : (_ : Heap) = _), ?_⟩; (conv => whnf))))))
      refine ⟨_, _, (told_sound).frame rfl _, ?_⟩; (conv => whnf); (try (refine ⟨(rfl : (_ : Heap) = _), ?_⟩; (conv => whnf)))
      (repeat (first | (refine ⟨fun _ => ?_, fun h => absurd h (by decide)⟩; (conv => whnf); (try (refine ⟨(rfl : (_ : Heap) = _), ?_⟩; (conv => whnf)))) | (refine ⟨fun h => absurd h (by decide), fun _ => ?_⟩; (conv => whnf); (try (refine ⟨(rfl : (_ : Heap) = _), ?_⟩; (conv => whnf))))))
      refine ⟨_, _, (touches_sound l hl).frame rfl _, ?_⟩; (conv => whnf); (try (refine ⟨(rfl : (_ : Heap) = _), ?_⟩; (conv => whnf)))
      refine ⟨_, _, (rtouches_sound l hl).frame rfl _, ?_⟩; (conv => whnf); (try (refine ⟨(rfl : (_ : Heap) = _), ?_⟩; (conv => whnf)))
      refine ⟨fun _ => ?_, fun h => absurd h (by simp)⟩
      (conv => whnf); (try (refine ⟨(rfl : (_ : Heap) = _), ?_⟩; (conv => whnf)))
      refine ⟨_, _, (twice_sound l hl).frame rfl _, ?_⟩; (conv => whnf); (try (refine ⟨(rfl : (_ : Heap) = _), ?_⟩; (conv => whnf)))
      refine ⟨_, _, (hrt).frame rfl _, ?_⟩; (conv => whnf); (try (refine ⟨(rfl : (_ : Heap) = _), ?_⟩; (conv => whnf)))
      refine ⟨fun _ => ?_, fun h => absurd h (by simp)⟩
      (conv => whnf); (try (refine ⟨(rfl : (_ : Heap) = _), ?_⟩; (conv => whnf)))
      refine ⟨_, _, (early_sound l hl).frame rfl _, ?_⟩; (conv => whnf); (try (refine ⟨(rfl : (_ : Heap) = _), ?_⟩; (conv => whnf)))
      refine ⟨_, _, (hre).frame rfl _, ?_⟩; (conv => whnf); (try (refine ⟨(rfl : (_ : Heap) = _), ?_⟩; (conv => whnf)))
      refine ⟨fun _ => ?_, fun h => absurd h (by simp)⟩
      (conv => whnf); (try (refine ⟨(rfl : (_ : Heap) = _), ?_⟩; (conv => whnf)))
      refine ⟨_, _, (sameA_sound (openR q.1) (by omega)).frame rfl _, ?_⟩; (conv => whnf); (try (refine ⟨(rfl : (_ : Heap) = _), ?_⟩; (conv => whnf)))
      (repeat (first | (refine ⟨fun _ => ?_, fun h => absurd h (by decide)⟩; (conv => whnf); (try (refine ⟨(rfl : (_ : Heap) = _), ?_⟩; (conv => whnf)))) | (refine ⟨fun h => absurd h (by decide), fun _ => ?_⟩; (conv => whnf); (try (refine ⟨(rfl : (_ : Heap) = _), ?_⟩; (conv => whnf))))))
      exact ⟨.inl rfl, _, .refl _, rfl⟩
    | false =>
      refine ⟨_, _, (h1).frame rfl _, ?_⟩; (conv => whnf); (try (refine ⟨(rfl : (_ : Heap) = _), ?_⟩; (conv => whnf)))
      (repeat (first | (refine ⟨fun _ => ?_, fun h => absurd h (by decide)⟩; (conv => whnf); (try (refine ⟨(rfl : (_ : Heap) = _), ?_⟩; (conv => whnf)))) | (refine ⟨fun h => absurd h (by decide), fun _ => ?_⟩; (conv => whnf); (try (refine ⟨(rfl : (_ : Heap) = _), ?_⟩; (conv => whnf))))))
      refine ⟨_, _, (h2).frame rfl _, ?_⟩; (conv => whnf); (try (refine ⟨(rfl : (_ : Heap) = _), ?_⟩; (conv => whnf)))
      (repeat (first | (refine ⟨fun _ => ?_, fun h => absurd h (by decide)⟩; (conv => whnf); (try (refine ⟨(rfl : (_ : Heap) = _), ?_⟩; (conv => whnf)))) | (refine ⟨fun h => absurd h (by decide), fun _ => ?_⟩; (conv => whnf); (try (refine ⟨(rfl : (_ : Heap) = _), ?_⟩; (conv => whnf))))))
      refine ⟨_, _, (told_sound).frame rfl _, ?_⟩; (conv => whnf); (try (refine ⟨(rfl : (_ : Heap) = _), ?_⟩; (conv => whnf)))
      (repeat (first | (refine ⟨fun _ => ?_, fun h => absurd h (by decide)⟩; (conv => whnf); (try (refine ⟨(rfl : (_ : Heap) = _), ?_⟩; (conv => whnf)))) | (refine ⟨fun h => absurd h (by decide), fun _ => ?_⟩; (conv => whnf); (try (refine ⟨(rfl : (_ : Heap) = _), ?_⟩; (conv => whnf))))))
      refine ⟨_, _, (touches_sound l hl).frame rfl _, ?_⟩; (conv => whnf); (try (refine ⟨(rfl : (_ : Heap) = _), ?_⟩; (conv => whnf)))
      refine ⟨_, _, (rtouches_sound l hl).frame rfl _, ?_⟩; (conv => whnf); (try (refine ⟨(rfl : (_ : Heap) = _), ?_⟩; (conv => whnf)))
      refine ⟨fun _ => ?_, fun h => absurd h (by simp)⟩
      (conv => whnf); (try (refine ⟨(rfl : (_ : Heap) = _), ?_⟩; (conv => whnf)))
      refine ⟨_, _, (twice_sound l hl).frame rfl _, ?_⟩; (conv => whnf); (try (refine ⟨(rfl : (_ : Heap) = _), ?_⟩; (conv => whnf)))
      refine ⟨_, _, (hrt).frame rfl _, ?_⟩; (conv => whnf); (try (refine ⟨(rfl : (_ : Heap) = _), ?_⟩; (conv => whnf)))
      refine ⟨fun _ => ?_, fun h => absurd h (by simp)⟩
      (conv => whnf); (try (refine ⟨(rfl : (_ : Heap) = _), ?_⟩; (conv => whnf)))
      refine ⟨_, _, (early_sound l hl).frame rfl _, ?_⟩; (conv => whnf); (try (refine ⟨(rfl : (_ : Heap) = _), ?_⟩; (conv => whnf)))
      refine ⟨_, _, (hre).frame rfl _, ?_⟩; (conv => whnf); (try (refine ⟨(rfl : (_ : Heap) = _), ?_⟩; (conv => whnf)))
      refine ⟨fun _ => ?_, fun h => absurd h (by simp)⟩
      (conv => whnf); (try (refine ⟨(rfl : (_ : Heap) = _), ?_⟩; (conv => whnf)))
      refine ⟨_, _, (sameA_sound (openR q.1) (by omega)).frame rfl _, ?_⟩; (conv => whnf); (try (refine ⟨(rfl : (_ : Heap) = _), ?_⟩; (conv => whnf)))
      (repeat (first | (refine ⟨fun _ => ?_, fun h => absurd h (by decide)⟩; (conv => whnf); (try (refine ⟨(rfl : (_ : Heap) = _), ?_⟩; (conv => whnf)))) | (refine ⟨fun h => absurd h (by decide), fun _ => ?_⟩; (conv => whnf); (try (refine ⟨(rfl : (_ : Heap) = _), ?_⟩; (conv => whnf))))))
      exact ⟨.inl rfl, _, .refl _, rfl⟩
end Go.Saf

