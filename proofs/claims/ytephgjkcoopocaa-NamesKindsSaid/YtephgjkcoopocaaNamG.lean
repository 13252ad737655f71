/- Layer 3 (names): the statements NamesKinds and NamesCut: plain laws, and walked. -/
import Derived.Test.YtephgjkcoopocaaNamF
namespace Go.Nam
open Go.Ab Go.Proofs Go.Hy Go.Gat
set_option linter.unusedVariables false
set_option maxRecDepth 8000

/-! ### Plain -/

theorem cutV_split {b : UInt8} {q : Str} : ∀ {p : Str}, cutV b (p ++ b :: q) = cutV b p ++ cutV b q
  | [] => by simp [cutV]
  | c :: p => by
    have h2 := cutV_split (b := b) (p := p) (q := q)
    by_cases e : c = b
    · subst e; simp [cutV, h2]
    · have h1 : (c == b) = false := by simpa using e
      simp only [List.cons_append, cutV, h1, Bool.false_eq_true, if_false, h2]
      cases h3 : cutV b p with
      | nil => exact absurd h3 (cutV_ne b p)
      | cons x xs => simp

theorem low_word {n : Int} (h : lowI n = true) : wordI n = true := by simp [wordI, h]

theorem name_dot {s : Str} (h : nameV s = true) : (46 : UInt8) ∉ s := by
  intro hm
  simp only [nameV, Bool.and_eq_true, List.all_eq_true] at h
  have := h.2 46 hm
  revert this
  decide
theorem name_host {s : Str} (h : nameV s = true) : hostV s = true := by
  unfold hostV
  rw [cutV_none (name_dot h)]
  have hl : s.length ≤ 16 := by simp only [nameV, Bool.and_eq_true, decide_eq_true_eq] at h; exact h.1.1.2
  simp [h]
  omega

/-- A host's first byte. -/
theorem host_head {c : UInt8} {s : Str} (h : hostV (c :: s) = true) : lowI (bI c) = true := by
  unfold hostV at h
  simp only [Bool.and_eq_true, List.all_eq_true] at h
  by_cases e : c = 46
  · subst e
    have := h.2 [] (by simp [cutV])
    exact absurd this (by decide)
  · have h1 : (c == 46) = false := by simpa using e
    cases h3 : cutV 46 s with
    | nil => exact absurd h3 (cutV_ne _ s)
    | cons x xs =>
      have := h.2 (c :: x) (by simp [cutV, h1, h3])
      simp only [nameV, Bool.and_eq_true] at this
      exact this.1.2

theorem host_pat {s : Str} (h : hostV s = true) : patV s = true := by
  cases e : hasP s [42, 46] with
  | false => simp [patV, e, h]
  | true =>
    exfalso
    match s, h, e with
    | [], h, e => exact absurd e (by decide)
    | c :: s, h, e =>
      have hc := host_head h
      have : c = 42 := by
        simp [hasP] at e
        exact e.2.1
      subst this
      exact absurd hc (by decide)

theorem path_pat {s : Str} (h : pathV s = true) : patV s = false := by
  match s, h with
  | [], h => exact absurd h (by decide)
  | c :: s, h =>
    have hc : c = 47 := by
      simp only [pathV, Bool.and_eq_true, beq_iff_eq] at h
      exact UInt8.toNat_inj.1 (by have := h.1.2; simp [bI] at this; show c.toNat = 47; omega)
    subst hc
    have h1 : hasP (47 :: s) [42, 46] = false := by simp [hasP]
    have h2 : hostV (47 :: s) = false := by
      cases e : hostV (47 :: s) with
      | false => rfl
      | true => exact absurd (host_head e) (by decide)
    simp [patV, h1, h2]

theorem pat_star (s : Str) : patV ([42, 46] ++ s) = hostV s := by
  have : hasP (42 :: 46 :: s) [42, 46] = true := by simp [hasP]
  show patV (42 :: 46 :: s) = _
  unfold patV
  rw [if_pos this]
  rfl

theorem path_more {s : Str} (h : pathV s = true) (hl : s.length ≠ 32) : pathV (s ++ [47]) = true := by
  match s, h with
  | [], h => exact absurd h (by decide)
  | c :: s, h =>
    simp only [pathV, Bool.and_eq_true, decide_eq_true_eq] at h ⊢
    simp only [List.cons_append]
    refine ⟨⟨⟨by simp, ?_⟩, h.1.2⟩, ?_⟩
    · have := h.1.1.2; simp at this hl ⊢; omega
    · have := h.2
      unfold allV at this ⊢
      rw [← List.cons_append, List.all_append, this]
      decide

theorem take_all {p : UInt8 → Bool} {s : Str} (n : Nat) (h : s.all p = true) : (s.take n).all p = true := by
  rw [List.all_eq_true] at h ⊢
  exact fun x hx => h x (List.mem_of_mem_take hx)

theorem name_take {s : Str} {n : Nat} (h : nameV s = true) (h1 : 1 ≤ n) : nameV (s.take n) = true := by
  match s, n, h, h1 with
  | [], n, h, _ => exact absurd h (by decide)
  | c :: s, n + 1, h, _ =>
    simp only [nameV, Bool.and_eq_true, decide_eq_true_eq, List.take_succ_cons] at h ⊢
    refine ⟨⟨⟨by simp, ?_⟩, h.1.2⟩, ?_⟩
    · have := h.1.1.2; simp at this ⊢; omega
    · exact take_all (n + 1) h.2
theorem path_take {s : Str} {n : Nat} (h : pathV s = true) (h1 : 1 ≤ n) : pathV (s.take n) = true := by
  match s, n, h, h1 with
  | [], n, h, _ => exact absurd h (by decide)
  | c :: s, n + 1, h, _ =>
    simp only [pathV, Bool.and_eq_true, decide_eq_true_eq, List.take_succ_cons] at h ⊢
    refine ⟨⟨⟨by simp, ?_⟩, h.1.2⟩, ?_⟩
    · have := h.1.1.2; simp at this ⊢; omega
    · exact take_all (n + 1) h.2

theorem host_cut {s : Str} {k : Nat} (hk : k < s.length) (hd : s[k] = 46) (h : hostV s = true) : hostV (s.drop (k + 1)) = true ∧ hostV (s.take k) = true := by
  have hs : s.take k ++ 46 :: s.drop (k + 1) = s := by rw [← hd, ← List.drop_eq_getElem_cons, List.take_append_drop]
  unfold hostV at h ⊢
  simp only [Bool.and_eq_true, decide_eq_true_eq] at h ⊢
  have h1 := h.2
  rw [← hs, cutV_split, List.all_append, Bool.and_eq_true] at h1
  exact ⟨⟨by simp; omega, h1.2⟩, ⟨by simp; omega, h1.1⟩⟩

/-! ### Walked -/

theorem kinds_sound (s : Str) : SoundAt Try.prog 7 [] [Tx s] (Bo true) [] := by
  refine SoundAt.of_wpA1 (fn := Try.f7) Try.func7 rfl ?_
  conv => whnf
  refine ⟨fun h0 => ?_, fun h0 => ?_⟩
  · conv => whnf
    exact ⟨.inl rfl, _, .refl _, rfl⟩
  have hl : s.length ≤ 2000 := by simp at h0; omega
  have h1 : s.length < 4611686018427387904 := by omega
  conv => whnf
  have hlen : ([42, 46] ++ s).length < 4611686018427387904 := by simp; omega
  have hlen2 : (s ++ [47]).length < 4611686018427387904 := by simp; omega
  have b5 := pat_star s
  cases a1 : nameV s <;> cases a2 : hostV s <;> cases a3 : patV s <;> cases a4 : pathV s <;> (try (exact absurd (a2.symm.trans (name_host a1) : false = true) (by decide))) <;> (try (exact absurd (a3.symm.trans (host_pat a2) : false = true) (by decide))) <;> (try (exact absurd (a3.symm.trans (path_pat a4) : true = false) (by decide))) <;>
  · rw [a2] at b5
    repeat (first
      | (refine ⟨_, _, (name_sound s h1).frame rfl _, ?_⟩; (conv => whnf); (try (refine ⟨(rfl : (_ : Heap) = _), ?_⟩; (conv => whnf))); first | (refine ⟨fun _ => ?_, fun h => absurd ((a1).symm.trans h : true = false) (by decide)⟩; (conv => whnf); (try (refine ⟨(rfl : (_ : Heap) = _), ?_⟩; (conv => whnf)))) | (refine ⟨fun h => absurd ((a1).symm.trans h : false = true) (by decide), fun _ => ?_⟩; (conv => whnf); (try (refine ⟨(rfl : (_ : Heap) = _), ?_⟩; (conv => whnf)))))
      | (refine ⟨_, _, (host_sound s h1).frame rfl _, ?_⟩; (conv => whnf); (try (refine ⟨(rfl : (_ : Heap) = _), ?_⟩; (conv => whnf))); first | (refine ⟨fun _ => ?_, fun h => absurd ((a2).symm.trans h : true = false) (by decide)⟩; (conv => whnf); (try (refine ⟨(rfl : (_ : Heap) = _), ?_⟩; (conv => whnf)))) | (refine ⟨fun h => absurd ((a2).symm.trans h : false = true) (by decide), fun _ => ?_⟩; (conv => whnf); (try (refine ⟨(rfl : (_ : Heap) = _), ?_⟩; (conv => whnf)))))
      | (refine ⟨_, _, (pattern_sound s h1).frame rfl _, ?_⟩; (conv => whnf); (try (refine ⟨(rfl : (_ : Heap) = _), ?_⟩; (conv => whnf))); first | (refine ⟨fun _ => ?_, fun h => absurd ((a3).symm.trans h : true = false) (by decide)⟩; (conv => whnf); (try (refine ⟨(rfl : (_ : Heap) = _), ?_⟩; (conv => whnf)))) | (refine ⟨fun h => absurd ((a3).symm.trans h : false = true) (by decide), fun _ => ?_⟩; (conv => whnf); (try (refine ⟨(rfl : (_ : Heap) = _), ?_⟩; (conv => whnf)))))
      | (refine ⟨_, _, (path_sound s h1).frame rfl _, ?_⟩; (conv => whnf); (try (refine ⟨(rfl : (_ : Heap) = _), ?_⟩; (conv => whnf))); first | (refine ⟨fun _ => ?_, fun h => absurd ((a4).symm.trans h : true = false) (by decide)⟩; (conv => whnf); (try (refine ⟨(rfl : (_ : Heap) = _), ?_⟩; (conv => whnf)))) | (refine ⟨fun h => absurd ((a4).symm.trans h : false = true) (by decide), fun _ => ?_⟩; (conv => whnf); (try (refine ⟨(rfl : (_ : Heap) = _), ?_⟩; (conv => whnf))))))
    refine ⟨_, _, (named_sound).frame rfl _, ?_⟩; (conv => whnf); (try (refine ⟨(rfl : (_ : Heap) = _), ?_⟩; (conv => whnf)))
    (repeat (first | (refine ⟨fun _ => ?_, fun h => absurd h (by decide)⟩; (conv => whnf); (try (refine ⟨(rfl : (_ : Heap) = _), ?_⟩; (conv => whnf)))) | (refine ⟨fun h => absurd h (by decide), fun _ => ?_⟩; (conv => whnf); (try (refine ⟨(rfl : (_ : Heap) = _), ?_⟩; (conv => whnf))))))
    refine ⟨by simp; omega, ?_⟩
    conv => whnf
    refine ⟨_, _, (pattern_sound ([42, 46] ++ s) hlen).frame rfl _, ?_⟩
    (conv => whnf); (try (refine ⟨(rfl : (_ : Heap) = _), ?_⟩; (conv => whnf)))
    first | (refine ⟨fun _ => ?_, fun h => absurd ((b5).symm.trans h : true = false) (by decide)⟩; (conv => whnf); (try (refine ⟨(rfl : (_ : Heap) = _), ?_⟩; (conv => whnf)))) | (refine ⟨fun h => absurd ((b5).symm.trans h : false = true) (by decide), fun _ => ?_⟩; (conv => whnf); (try (refine ⟨(rfl : (_ : Heap) = _), ?_⟩; (conv => whnf))))
    refine ⟨_, _, (host_sound s h1).frame rfl _, ?_⟩; (conv => whnf); (try (refine ⟨(rfl : (_ : Heap) = _), ?_⟩; (conv => whnf)))
    first | (refine ⟨fun _ => ?_, fun h => absurd ((a2).symm.trans h : true = false) (by decide)⟩; (conv => whnf); (try (refine ⟨(rfl : (_ : Heap) = _), ?_⟩; (conv => whnf)))) | (refine ⟨fun h => absurd ((a2).symm.trans h : false = true) (by decide), fun _ => ?_⟩; (conv => whnf); (try (refine ⟨(rfl : (_ : Heap) = _), ?_⟩; (conv => whnf))))
    (repeat (first | (refine ⟨fun _ => ?_, fun h => absurd h (by decide)⟩; (conv => whnf); (try (refine ⟨(rfl : (_ : Heap) = _), ?_⟩; (conv => whnf)))) | (refine ⟨fun h => absurd h (by decide), fun _ => ?_⟩; (conv => whnf); (try (refine ⟨(rfl : (_ : Heap) = _), ?_⟩; (conv => whnf))))))
    refine ⟨_, _, (path_sound s h1).frame rfl _, ?_⟩; (conv => whnf); (try (refine ⟨(rfl : (_ : Heap) = _), ?_⟩; (conv => whnf)))
    first | (refine ⟨fun _ => ?_, fun h => absurd ((a4).symm.trans h : true = false) (by decide)⟩; (conv => whnf); (try (refine ⟨(rfl : (_ : Heap) = _), ?_⟩; (conv => whnf)))) | (refine ⟨fun h => absurd ((a4).symm.trans h : false = true) (by decide), fun _ => ?_⟩; (conv => whnf); (try (refine ⟨(rfl : (_ : Heap) = _), ?_⟩; (conv => whnf))))
    try
      refine ⟨fun h6 => ?_, fun h6 => ?_⟩
      · (conv => whnf); (try (refine ⟨(rfl : (_ : Heap) = _), ?_⟩; (conv => whnf)))
        exact ⟨.inl rfl, _, .refl _, rfl⟩
      · (conv => whnf); (try (refine ⟨(rfl : (_ : Heap) = _), ?_⟩; (conv => whnf)))
        refine ⟨by simp; omega, ?_⟩
        conv => whnf
        refine ⟨_, _, (path_sound (s ++ [47]) hlen2).frame rfl _, ?_⟩; (conv => whnf); (try (refine ⟨(rfl : (_ : Heap) = _), ?_⟩; (conv => whnf)))
        refine ⟨fun _ => ?_, fun h => absurd ((path_more a4 (by simp at h6; omega)).symm.trans h : true = false) (by decide)⟩; (conv => whnf); (try (refine ⟨(rfl : (_ : Heap) = _), ?_⟩; (conv => whnf)))
        exact ⟨.inl rfl, _, .refl _, rfl⟩
    try exact ⟨.inl rfl, _, .refl _, rfl⟩

theorem cutL_sound (s : Str) (n : Int) (hn : i64 n) : SoundAt Try.prog 8 [] [Tx s, I n] (Bo true) [] := by
  refine SoundAt.of_wpA1 (fn := Try.f8) Try.func8 rfl ?_
  conv => whnf
  refine ⟨fun h0 => ?_, fun h0 => ?_⟩
  · conv => whnf
    refine ⟨_, _, (named_sound).frame rfl _, ?_⟩; (conv => whnf); (try (refine ⟨(rfl : (_ : Heap) = _), ?_⟩; (conv => whnf)))
    (repeat (first | (refine ⟨fun _ => ?_, fun h => absurd h (by decide)⟩; (conv => whnf); (try (refine ⟨(rfl : (_ : Heap) = _), ?_⟩; (conv => whnf)))) | (refine ⟨fun h => absurd h (by decide), fun _ => ?_⟩; (conv => whnf); (try (refine ⟨(rfl : (_ : Heap) = _), ?_⟩; (conv => whnf))))))
    exact ⟨.inl rfl, _, .refl _, rfl⟩
  have hl : s.length ≤ 2000 := by simp at h0; omega
  conv => whnf
  refine ⟨fun h1 => ?_, fun h1 => ?_⟩
  · conv => whnf
    refine ⟨_, _, (named_sound).frame rfl _, ?_⟩; (conv => whnf); (try (refine ⟨(rfl : (_ : Heap) = _), ?_⟩; (conv => whnf)))
    (repeat (first | (refine ⟨fun _ => ?_, fun h => absurd h (by decide)⟩; (conv => whnf); (try (refine ⟨(rfl : (_ : Heap) = _), ?_⟩; (conv => whnf)))) | (refine ⟨fun h => absurd h (by decide), fun _ => ?_⟩; (conv => whnf); (try (refine ⟨(rfl : (_ : Heap) = _), ?_⟩; (conv => whnf))))))
    exact ⟨.inl rfl, _, .refl _, rfl⟩
  conv => whnf
  refine ⟨fun h2 => ?_, fun h2 => ?_⟩
  · conv => whnf
    refine ⟨_, _, (named_sound).frame rfl _, ?_⟩; (conv => whnf); (try (refine ⟨(rfl : (_ : Heap) = _), ?_⟩; (conv => whnf)))
    (repeat (first | (refine ⟨fun _ => ?_, fun h => absurd h (by decide)⟩; (conv => whnf); (try (refine ⟨(rfl : (_ : Heap) = _), ?_⟩; (conv => whnf)))) | (refine ⟨fun h => absurd h (by decide), fun _ => ?_⟩; (conv => whnf); (try (refine ⟨(rfl : (_ : Heap) = _), ?_⟩; (conv => whnf))))))
    exact ⟨.inl rfl, _, .refl _, rfl⟩
  obtain ⟨k, hk⟩ : ∃ k : Nat, n = ((k + 1 : Nat) : Int) := ⟨n.toNat - 1, by simp at h1; omega⟩
  have hkl : k < s.length := by simp at h2; omega
  have hw : IntKind.i64.wrap (n - 1) = (k : Int) := by rw [i64_ok (by omega) (by omega)]; omega
  have hs : s.length < 4611686018427387904 := by omega
  have ht : (s.take (k + 1)).length < 4611686018427387904 := by simp; omega
  have ht2 : (s.take k).length < 4611686018427387904 := by simp; omega
  have hd : (s.drop (k + 1)).length < 4611686018427387904 := by simp; omega
  have en : n.toNat = k + 1 := by omega
  conv => whnf
  refine ⟨_, _, (name_sound s hs).frame rfl _, ?_⟩; (conv => whnf); (try (refine ⟨(rfl : (_ : Heap) = _), ?_⟩; (conv => whnf)))
  have part3 : ∀ (X : Prop), X → X := fun _ h => h
  refine ⟨fun a1 => ?_, fun a1 => ?_⟩ <;>
  · conv => whnf
    try
      refine ⟨by omega, by omega, by omega, ?_⟩
      rw [en, List.drop_zero]
      conv => whnf
      refine ⟨_, _, (name_sound (s.take (k + 1)) ht).frame rfl _, ?_⟩
      (conv => whnf); (try (refine ⟨(rfl : (_ : Heap) = _), ?_⟩; (conv => whnf)))
      refine ⟨fun _ => ?_, fun h => absurd ((name_take (n := k + 1) a1 (by omega)).symm.trans h : true = false) (by decide)⟩; (conv => whnf); (try (refine ⟨(rfl : (_ : Heap) = _), ?_⟩; (conv => whnf)))
    refine ⟨_, _, (named_sound).frame rfl _, ?_⟩; (conv => whnf); (try (refine ⟨(rfl : (_ : Heap) = _), ?_⟩; (conv => whnf)))
    (repeat (first | (refine ⟨fun _ => ?_, fun h => absurd h (by decide)⟩; (conv => whnf); (try (refine ⟨(rfl : (_ : Heap) = _), ?_⟩; (conv => whnf)))) | (refine ⟨fun h => absurd h (by decide), fun _ => ?_⟩; (conv => whnf); (try (refine ⟨(rfl : (_ : Heap) = _), ?_⟩; (conv => whnf))))))
    refine ⟨_, _, (host_sound s hs).frame rfl _, ?_⟩; (conv => whnf); (try (refine ⟨(rfl : (_ : Heap) = _), ?_⟩; (conv => whnf)))
    refine ⟨fun a2 => ?_, fun a2 => ?_⟩
    · conv => whnf
      rw [hw]
      refine ⟨by omega, s[k], by rw [toNat_cast, List.getElem?_eq_getElem hkl], ?_⟩
      conv => whnf
      refine ⟨fun h3 => ?_, fun h3 => ?_⟩
      · conv => whnf
        refine ⟨_, _, (path_sound s hs).frame rfl _, ?_⟩; (conv => whnf); (try (refine ⟨(rfl : (_ : Heap) = _), ?_⟩; (conv => whnf)))
        refine ⟨fun a4 => ?_, fun a4 => ?_⟩
        · conv => whnf
          refine ⟨by omega, by omega, by omega, ?_⟩
          rw [en, List.drop_zero]
          conv => whnf
          refine ⟨_, _, (path_sound (s.take (k + 1)) ht).frame rfl _, ?_⟩
          (conv => whnf); (try (refine ⟨(rfl : (_ : Heap) = _), ?_⟩; (conv => whnf)))
          refine ⟨fun _ => ?_, fun h => absurd ((path_take (n := k + 1) a4 (by omega)).symm.trans h : true = false) (by decide)⟩; (conv => whnf); (try (refine ⟨(rfl : (_ : Heap) = _), ?_⟩; (conv => whnf)))
          exact ⟨.inl rfl, _, .refl _, rfl⟩
        · conv => whnf
          exact ⟨.inl rfl, _, .refl _, rfl⟩
      · have h4 : s[k] = 46 := UInt8.toNat_inj.1 (by simp at h3; show s[k].toNat = 46; omega)
        obtain ⟨h5, h6⟩ := host_cut hkl h4 a2
        conv => whnf
        refine ⟨by omega, by omega, by omega, ?_⟩
        rw [en, List.take_length]
        conv => whnf
        refine ⟨_, _, (host_sound (s.drop (k + 1)) hd).frame rfl _, ?_⟩
        (conv => whnf); (try (refine ⟨(rfl : (_ : Heap) = _), ?_⟩; (conv => whnf)))
        refine ⟨fun _ => ?_, fun h => absurd ((h5).symm.trans h : true = false) (by decide)⟩; (conv => whnf); (try (refine ⟨(rfl : (_ : Heap) = _), ?_⟩; (conv => whnf)))
        rw [hw]
        refine ⟨by omega, by omega, by omega, ?_⟩
        rw [toNat_cast, List.drop_zero]
        conv => whnf
        refine ⟨_, _, (host_sound (s.take k) ht2).frame rfl _, ?_⟩
        (conv => whnf); (try (refine ⟨(rfl : (_ : Heap) = _), ?_⟩; (conv => whnf)))
        refine ⟨fun _ => ?_, fun h => absurd ((h6).symm.trans h : true = false) (by decide)⟩; (conv => whnf); (try (refine ⟨(rfl : (_ : Heap) = _), ?_⟩; (conv => whnf)))
        refine ⟨_, _, (path_sound s hs).frame rfl _, ?_⟩; (conv => whnf); (try (refine ⟨(rfl : (_ : Heap) = _), ?_⟩; (conv => whnf)))
        refine ⟨fun a4 => ?_, fun a4 => ?_⟩
        · conv => whnf
          refine ⟨by omega, by omega, by omega, ?_⟩
          rw [en, List.drop_zero]
          conv => whnf
          refine ⟨_, _, (path_sound (s.take (k + 1)) ht).frame rfl _, ?_⟩
          (conv => whnf); (try (refine ⟨(rfl : (_ : Heap) = _), ?_⟩; (conv => whnf)))
          refine ⟨fun _ => ?_, fun h => absurd ((path_take (n := k + 1) a4 (by omega)).symm.trans h : true = false) (by decide)⟩; (conv => whnf); (try (refine ⟨(rfl : (_ : Heap) = _), ?_⟩; (conv => whnf)))
          exact ⟨.inl rfl, _, .refl _, rfl⟩
        · conv => whnf
          exact ⟨.inl rfl, _, .refl _, rfl⟩
    · conv => whnf
      refine ⟨_, _, (path_sound s hs).frame rfl _, ?_⟩; (conv => whnf); (try (refine ⟨(rfl : (_ : Heap) = _), ?_⟩; (conv => whnf)))
      refine ⟨fun a4 => ?_, fun a4 => ?_⟩
      · conv => whnf
        refine ⟨by omega, by omega, by omega, ?_⟩
        rw [en, List.drop_zero]
        conv => whnf
        refine ⟨_, _, (path_sound (s.take (k + 1)) ht).frame rfl _, ?_⟩
        (conv => whnf); (try (refine ⟨(rfl : (_ : Heap) = _), ?_⟩; (conv => whnf)))
        refine ⟨fun _ => ?_, fun h => absurd ((path_take (n := k + 1) a4 (by omega)).symm.trans h : true = false) (by decide)⟩; (conv => whnf); (try (refine ⟨(rfl : (_ : Heap) = _), ?_⟩; (conv => whnf)))
        exact ⟨.inl rfl, _, .refl _, rfl⟩
      · conv => whnf
        exact ⟨.inl rfl, _, .refl _, rfl⟩

end Go.Nam
