/- Layer 14 (slots): a slot pushed, in the program and in the reference, walked. -/
import Derived.Test.YtephgjkcoopocaaSlpE
namespace Go.Slp
open Go.Ab Go.Proofs Go.Hy
set_option linter.unusedVariables false
set_option maxRecDepth 8000

theorem clone_sound (X Y : Ob) (x : Int) (l : List Int) (hl : l.length < 17592186043904) : SoundAt Try.prog 65 [X, Y] [lI (x :: l)] (.sl 2 [] 1 0 (0 + ((l.map encI).length + 1)) false) [X, Y, ⟨2, 3, 1, (x :: l).map encI, 0⟩] := by
  refine SoundAt.of_wpA (fn := Try.f65) Try.func65 rfl ?_
  conv => whnf
  refine ⟨by simp, ?_⟩
  conv => whnf
  refine .inr ⟨.inl rfl, by simp [maxLen]; omega, by show _ * 8 ≤ _; simp; omega, ?_⟩
  conv => whnf
  exact ⟨.inl rfl, _, .refl _, rfl, rfl⟩

theorem free_has {e : En} (h : isV e = true) (he : e.ok) : (freeV e).1.length < 4611686018427387904 := by
  rw [free_eq h]
  have := (cnt_spec e.next (headI e)).1
  have := he.2.1.2
  show (visV _ _ _).length < _
  rw [vis_len]
  omega

theorem push_sound (e : En) (slot : Int) (he : e.ok) : SoundAt Try.prog 31 [] [Ev e, I slot] (tQ (pushV e slot)) [] := by
  have hl := he.2.1.2
  have hlm : (e.next.map encI).length = e.next.length := List.length_map ..
  refine SoundAt.of_wpA1 (fn := Try.f31) Try.func31 rfl ?_
  conv => whnf
  refine ⟨_, _, (is_sound e he).frame rfl _, ?_⟩; (conv => whnf); (try (refine ⟨(rfl : (_ : Heap) = _), ?_⟩; (conv => whnf)))
  refine ⟨fun h1 => ?_, fun h1 => ?_⟩
  · obtain ⟨_, b2, b3, _⟩ := isV_ok h1
    have hbad : slot < 0 ∨ e.next.length ≤ slot → pushV e slot = (no, 1) := fun h => by unfold pushV; rw [if_neg (by simp [h1]), if_pos h]
    (conv => whnf); (try (refine ⟨(rfl : (_ : Heap) = _), ?_⟩; (conv => whnf)))
    refine ⟨fun h2 => ?_, fun h2 => ?_⟩
    · rw [hbad (.inl (by simpa using h2))]
      (conv => whnf); (try (refine ⟨(rfl : (_ : Heap) = _), ?_⟩; (conv => whnf)))
      exact ⟨.inl rfl, _, Weak.var 1 rfl rfl rfl (.cons (.refl _) (.cons (WC.nil 0 1) (.cons (.refl _) .nil))), rfl⟩
    · (conv => whnf); (try (refine ⟨(rfl : (_ : Heap) = _), ?_⟩; (conv => whnf)))
      refine ⟨fun h3 => ?_, fun h3 => ?_⟩
      · rw [hbad (.inr (by simp at h3; omega))]
        (conv => whnf); (try (refine ⟨(rfl : (_ : Heap) = _), ?_⟩; (conv => whnf)))
        exact ⟨.inl rfl, _, Weak.var 1 rfl rfl rfl (.cons (.refl _) (.cons (WC.nil 0 1) (.cons (.refl _) .nil))), rfl⟩
      · have g1 : 0 ≤ slot := by simpa using h2
        have g2 : slot < e.next.length := by simp at h3; omega
        have hno : ¬ (slot < 0 ∨ e.next.length ≤ slot) := by omega
        (conv => whnf); (try (refine ⟨(rfl : (_ : Heap) = _), ?_⟩; (conv => whnf)))
        refine ⟨_, _, (free_sound e he).frame rfl _, ?_⟩; (conv => whnf); (try (refine ⟨(rfl : (_ : Heap) = _), ?_⟩; (conv => whnf)))
        refine ⟨_, _, (contains_sound (freeV e).1 slot (free_has h1 he)).frame rfl _, ?_⟩; (conv => whnf); (try (refine ⟨(rfl : (_ : Heap) = _), ?_⟩; (conv => whnf)))
        refine ⟨fun h4 => ?_, fun h4 => ?_⟩
        · have e1 : pushV e slot = (no, 4) := by unfold pushV; rw [if_neg (by simp [h1]), if_neg hno, if_pos h4]
          rw [e1]
          (conv => whnf); (try (refine ⟨(rfl : (_ : Heap) = _), ?_⟩; (conv => whnf)))
          exact ⟨.inl rfl, _, Weak.var 1 rfl rfl rfl (.cons (.refl _) (.cons (WC.nil 0 1) (.cons (.refl _) .nil))), rfl⟩
        · have e1 : pushV e slot = (⟨nextT e.head slot, e.next.set slot.toNat (headI e), e.active⟩, 0) := by unfold pushV; rw [if_neg (by simp [h1]), if_neg hno, if_neg (by simp only [h4]; decide)]
          rw [e1]
          obtain ⟨x, xs, hx⟩ : ∃ x xs, e.next = x :: xs := by
            cases hn : e.next with
            | nil => rw [hn] at b2; simp at b2
            | cons x xs => exact ⟨x, xs, rfl⟩
          have hxl : xs.length < 17592186043904 := by rw [hx] at hl; simp at hl; omega
          (conv => whnf); (try (refine ⟨(rfl : (_ : Heap) = _), ?_⟩; (conv => whnf)))
          refine ⟨_, _, (next_sound e.head slot he.1 (by omega) (by omega)).frame rfl _, ?_⟩; (conv => whnf); (try (refine ⟨(rfl : (_ : Heap) = _), ?_⟩; (conv => whnf)))
          (repeat (first | (refine ⟨fun _ => ?_, fun h => absurd h (by decide)⟩; (conv => whnf); (try (refine ⟨(rfl : (_ : Heap) = _), ?_⟩; (conv => whnf)))) | (refine ⟨fun h => absurd h (by decide), fun _ => ?_⟩; (conv => whnf); (try (refine ⟨(rfl : (_ : Heap) = _), ?_⟩; (conv => whnf))))))
          rw [hx]
          refine ⟨_, _, clone_sound _ _ x xs hxl, ?_⟩
          (conv => whnf); (try (refine ⟨(rfl : (_ : Heap) = _), ?_⟩; (conv => whnf)))
          have hse : ((x :: xs).map encI).set slot.toNat [I (headI e)] = ((x :: xs).set slot.toNat (headI e)).map encI := by rw [List.map_set]; rfl
          have hg : ((x :: xs).map encI)[slot.toNat]? = some (encI ((x :: xs)[slot.toNat]'(by rw [← hx]; omega))) := by rw [List.getElem?_map, List.getElem?_eq_getElem (by rw [← hx]; omega)]; rfl
          have hlen2 : (xs.map encI).length + 1 = e.next.length := by rw [hx]; simp
          refine ⟨⟨false, []⟩, by kernel_rfl, ?_⟩; (conv => whnf)
          refine ⟨_, _, (index_sound e.head he.1).frame rfl _, ?_⟩; (conv => whnf); (try (refine ⟨(rfl : (_ : Heap) = _), ?_⟩; (conv => whnf)))
          refine ⟨g1, by omega, ?_⟩
          (conv => whnf); (try (refine ⟨(rfl : (_ : Heap) = _), ?_⟩; (conv => whnf)))
          rw [Nat.zero_add]
          refine ⟨_, hg, rfl, ?_⟩
          (conv => whnf); (try (refine ⟨(rfl : (_ : Heap) = _), ?_⟩; (conv => whnf)))
          rw [show (List.set (List.map encI (x :: xs)) slot.toNat [C.v (Value.int IntKind.i64 (e.head % 4294967296 - 1))]) = ((x :: xs).set slot.toNat (headI e)).map encI from hse]
          exact ⟨.inl rfl, _, Weak.freezeH 1 1 rfl rfl rfl (by simp) (fun r hr c hc => by
            obtain ⟨n, _, rfl⟩ := List.mem_map.1 hr
            simp [encI] at hc
            subst hc; rfl) rfl rfl, rfl⟩
  · have e1 : pushV e slot = (no, 11) := by unfold pushV; rw [if_pos h1]
    rw [e1]
    conv => whnf
    exact ⟨.inl rfl, _, Weak.var 1 rfl rfl rfl (.cons (.refl _) (.cons (WC.nil 0 1) (.cons (.refl _) .nil))), rfl⟩

theorem rpush_sound (e : En) (slot : Int) (he : e.ok) : SoundAt Try.prog 32 [] [Ev e, I slot] (tQ (pushV e slot)) [] := by
  have hl := he.2.1.2
  have hlm : (e.next.map encI).length = e.next.length := List.length_map ..
  refine SoundAt.of_wpA1 (fn := Try.f32) Try.func32 rfl ?_
  conv => whnf
  refine ⟨_, _, (ris_sound e he).frame rfl _, ?_⟩; (conv => whnf); (try (refine ⟨(rfl : (_ : Heap) = _), ?_⟩; (conv => whnf)))
  refine ⟨fun h1 => ?_, fun h1 => ?_⟩
  · obtain ⟨_, b2, b3, _⟩ := isV_ok h1
    have hbad : slot < 0 ∨ e.next.length ≤ slot → pushV e slot = (no, 1) := fun h => by unfold pushV; rw [if_neg (by simp [h1]), if_pos h]
    (conv => whnf); (try (refine ⟨(rfl : (_ : Heap) = _), ?_⟩; (conv => whnf)))
    refine ⟨fun h2 => ?_, fun h2 => ?_⟩
    · rw [hbad (.inl (by simpa using h2))]
      (conv => whnf); (try (refine ⟨(rfl : (_ : Heap) = _), ?_⟩; (conv => whnf)))
      exact ⟨.inl rfl, _, Weak.var 1 rfl rfl rfl (.cons (.refl _) (.cons (WC.nil 0 1) (.cons (.refl _) .nil))), rfl⟩
    · (conv => whnf); (try (refine ⟨(rfl : (_ : Heap) = _), ?_⟩; (conv => whnf)))
      refine ⟨fun h3 => ?_, fun h3 => ?_⟩
      · rw [hbad (.inr (by simp at h3; omega))]
        (conv => whnf); (try (refine ⟨(rfl : (_ : Heap) = _), ?_⟩; (conv => whnf)))
        exact ⟨.inl rfl, _, Weak.var 1 rfl rfl rfl (.cons (.refl _) (.cons (WC.nil 0 1) (.cons (.refl _) .nil))), rfl⟩
      · have g1 : 0 ≤ slot := by simpa using h2
        have g2 : slot < e.next.length := by simp at h3; omega
        have hno : ¬ (slot < 0 ∨ e.next.length ≤ slot) := by omega
        (conv => whnf); (try (refine ⟨(rfl : (_ : Heap) = _), ?_⟩; (conv => whnf)))
        refine ⟨_, _, (rfree_sound e he).frame rfl _, ?_⟩; (conv => whnf); (try (refine ⟨(rfl : (_ : Heap) = _), ?_⟩; (conv => whnf)))
        refine ⟨_, _, (rhas_sound (freeV e).1 slot (free_has h1 he)).frame rfl _, ?_⟩; (conv => whnf); (try (refine ⟨(rfl : (_ : Heap) = _), ?_⟩; (conv => whnf)))
        refine ⟨fun h4 => ?_, fun h4 => ?_⟩
        · have e1 : pushV e slot = (no, 4) := by unfold pushV; rw [if_neg (by simp [h1]), if_neg hno, if_pos h4]
          rw [e1]
          (conv => whnf); (try (refine ⟨(rfl : (_ : Heap) = _), ?_⟩; (conv => whnf)))
          exact ⟨.inl rfl, _, Weak.var 1 rfl rfl rfl (.cons (.refl _) (.cons (WC.nil 0 1) (.cons (.refl _) .nil))), rfl⟩
        · have e1 : pushV e slot = (⟨nextT e.head slot, e.next.set slot.toNat (headI e), e.active⟩, 0) := by unfold pushV; rw [if_neg (by simp [h1]), if_neg hno, if_neg (by simp only [h4]; decide)]
          rw [e1]
          obtain ⟨x, xs, hx⟩ : ∃ x xs, e.next = x :: xs := by
            cases hn : e.next with
            | nil => rw [hn] at b2; simp at b2
            | cons x xs => exact ⟨x, xs, rfl⟩
          have hxl : xs.length < 17592186043904 := by rw [hx] at hl; simp at hl; omega
          rw [hx]
          have hse : ((x :: xs).map encI).set slot.toNat [I (headI e)] = ((x :: xs).set slot.toNat (headI e)).map encI := by rw [List.map_set]; rfl
          have hg : ((x :: xs).map encI)[slot.toNat]? = some (encI ((x :: xs)[slot.toNat]'(by rw [← hx]; omega))) := by rw [List.getElem?_map, List.getElem?_eq_getElem (by rw [← hx]; omega)]; rfl
          have hlen2 : (xs.map encI).length + 1 = e.next.length := by rw [hx]; simp
          (conv => whnf); (try (refine ⟨(rfl : (_ : Heap) = _), ?_⟩; (conv => whnf)))
          refine .inr ⟨.inl rfl, by simp [maxLen]; omega, by show _ * 8 ≤ _; simp; omega, ?_⟩
          (conv => whnf); (try (refine ⟨(rfl : (_ : Heap) = _), ?_⟩; (conv => whnf)))
          refine ⟨_, _, (rindex_sound e.head he.1).frame rfl _, ?_⟩; (conv => whnf); (try (refine ⟨(rfl : (_ : Heap) = _), ?_⟩; (conv => whnf)))
          refine ⟨g1, by omega, ?_⟩
          (conv => whnf); (try (refine ⟨(rfl : (_ : Heap) = _), ?_⟩; (conv => whnf)))
          rw [Nat.zero_add]
          refine ⟨_, hg, rfl, ?_⟩
          (conv => whnf); (try (refine ⟨(rfl : (_ : Heap) = _), ?_⟩; (conv => whnf)))
          rw [show (List.set ([] ++ encI x :: List.map encI xs) slot.toNat [C.v (Value.int IntKind.i64 (e.head % 4294967296 - 1))]) = ((x :: xs).set slot.toNat (headI e)).map encI from hse]
          refine ⟨_, _, (rnext_sound e.head slot he.1 (by omega) (by omega)).frame rfl _, ?_⟩; (conv => whnf); (try (refine ⟨(rfl : (_ : Heap) = _), ?_⟩; (conv => whnf)))
          exact ⟨.inl rfl, _, Weak.freezeH 1 1 rfl rfl rfl (by simp) (fun r hr c hc => by
            obtain ⟨n, _, rfl⟩ := List.mem_map.1 hr
            simp [encI] at hc
            subst hc; rfl) rfl rfl, rfl⟩
  · have e1 : pushV e slot = (no, 11) := by unfold pushV; rw [if_pos h1]
    rw [e1]
    conv => whnf
    exact ⟨.inl rfl, _, Weak.var 1 rfl rfl rfl (.cons (.refl _) (.cons (WC.nil 0 1) (.cons (.refl _) .nil))), rfl⟩

/-! ### Rows of numbers, and endpoints, compared -/

theorem sameI_sound (a b : List Int) (ha : a.length < 4611686018427387904) (hb : b.length < 4611686018427387904) : SoundAt Try.prog 37 [] [lI a, lI b] (Bo (a == b)) [] := by
  refine SoundAt.of_wpA1 (fn := Try.f37) Try.func37 rfl ?_
  conv => whnf
  refine ⟨fun h => ?_, fun h => ?_⟩
  · (conv => whnf); (try (refine ⟨(rfl : (_ : Heap) = _), ?_⟩; (conv => whnf)))
    (exact ⟨.inl rfl, _, .refl _, congrArg (fun b => some (C.v (Value.bool b))) (by symm; rw [beq_eq_false_iff_ne]; intro e; subst e; simp at h)⟩)
  · have hl : a.length = b.length := by simp at h; omega
    (conv => whnf); (try (refine ⟨(rfl : (_ : Heap) = _), ?_⟩; (conv => whnf)))
    refine Loops.seq a.length (fun k => [lI a, lI b, .junk, .junk, Bo false, I k, .junk, .junk, .junk, .junk, .junk, .junk, .junk, .junk, .junk, .junk, .junk, .junk, .junk, .junk, .junk, .junk, .junk, .junk, .junk, .junk]) (fun k => []) (fun k => ∀ j, (h : j < a.length) → j < k → a[j] = b[j]'(by omega)) ?_ (by simp) (fun k hk hr => ?_) (fun hr => ?_)
    · exact Weak.cov (by (conv => whnf); (repeat (refine ⟨rfl, ?_⟩; (conv => whnf))); exact trivial)
    · conv => whnf
      refine ⟨fun h => ?_, fun h => absurd h (by simp; omega)⟩
      conv => whnf
      refine ⟨⟨false, []⟩, by kernel_rfl, ?_⟩; (conv => whnf)
      refine ⟨by omega, encI a[k], by simp [hk], ?_⟩
      (conv => whnf); (try (refine ⟨(rfl : (_ : Heap) = _), ?_⟩; (conv => whnf)))
      refine ⟨by omega, encI (b[k]'(by omega)), by rw [toNat_cast, List.getElem?_map, List.getElem?_eq_getElem (by omega)]; rfl, ?_⟩
      (conv => whnf); (try (refine ⟨(rfl : (_ : Heap) = _), ?_⟩; (conv => whnf)))
      refine ⟨fun h2 => ?_, fun h2 => ?_⟩
      · (conv => whnf); (try (refine ⟨(rfl : (_ : Heap) = _), ?_⟩; (conv => whnf)))
        refine .inr ⟨by simp, ?_⟩
        conv => whnf
        (exact ⟨.inl rfl, _, .refl _, congrArg (fun b => some (C.v (Value.bool b))) (by symm; rw [beq_eq_false_iff_ne]; intro e; subst e; simp at h2)⟩)
      · (conv => whnf); (try (refine ⟨(rfl : (_ : Heap) = _), ?_⟩; (conv => whnf)))
        refine .inl ⟨rfl, ?_, ?_⟩
        · rw [i64_nat (by omega)]
          exact Weak.covD 0 (by (conv => whnf); (repeat (refine ⟨rfl, ?_⟩; (conv => whnf))); exact trivial) rfl rfl rfl rfl rfl
        · intro j hj hjk
          by_cases e : j = k
          · subst e; simpa using h2
          · exact hr j hj (by omega)
    · conv => whnf
      refine ⟨fun h => absurd h (by simp), fun h => ?_⟩
      conv => whnf
      refine ⟨by simp, ?_⟩
      conv => whnf
      (exact ⟨.inl rfl, _, .refl _, congrArg (fun b => some (C.v (Value.bool b))) (by symm; rw [beq_iff_eq]; exact List.ext_getElem hl fun j h1 h2 => hr j h1 h1)⟩)

def sameEV (a b : En) : Bool := a.head == b.head && a.active == b.active && a.next == b.next
theorem sameE_sound (a b : En) (ha : a.ok) (hb : b.ok) : SoundAt Try.prog 36 [] [Ev a, Ev b] (Bo (sameEV a b)) [] := by
  have hal := ha.2.1.2
  have hbl := hb.2.1.2
  refine SoundAt.of_wpA1 (fn := Try.f36) Try.func36 rfl ?_
  conv => whnf
  refine ⟨fun h => ?_, fun h => ?_⟩
  · (conv => whnf); (try (refine ⟨(rfl : (_ : Heap) = _), ?_⟩; (conv => whnf)))
    (exact ⟨.inl rfl, _, .refl _, congrArg (fun b => some (C.v (Value.bool b))) (by simp [sameEV]; simp at h; simp [h])⟩)
  · (conv => whnf); (try (refine ⟨(rfl : (_ : Heap) = _), ?_⟩; (conv => whnf)))
    refine ⟨fun h2 => ?_, fun h2 => ?_⟩
    · (conv => whnf); (try (refine ⟨(rfl : (_ : Heap) = _), ?_⟩; (conv => whnf)))
      (exact ⟨.inl rfl, _, .refl _, congrArg (fun b => some (C.v (Value.bool b))) (by simp [sameEV]; simp at h2; simp [h2])⟩)
    · (conv => whnf); (try (refine ⟨(rfl : (_ : Heap) = _), ?_⟩; (conv => whnf)))
      refine ⟨fun h3 => ?_, fun h3 => ?_⟩
      · (conv => whnf); (try (refine ⟨(rfl : (_ : Heap) = _), ?_⟩; (conv => whnf)))
        (exact ⟨.inl rfl, _, .refl _, congrArg (fun b => some (C.v (Value.bool b))) (by simp [sameEV]; intro _ _ e; rw [e] at h3; simp at h3)⟩)
      · have hl : a.next.length = b.next.length := by simp at h3; omega
        have e0 : sameEV a b = (a.next == b.next) := by simp at h h2; simp [sameEV, h, h2]
        rw [e0]
        (conv => whnf); (try (refine ⟨(rfl : (_ : Heap) = _), ?_⟩; (conv => whnf)))
        refine Loops.seq a.next.length (fun k => [.junk, .junk, .ref 0 [] 3 0 0, .ref 1 [] 3 0 0, Bo false, I k, .junk, .junk, .junk, .junk, .junk, .junk, .junk, .junk, .junk, .junk, .junk, .junk, .junk, .junk, .junk, .junk, .junk, .junk, .junk, .junk, .junk, .junk, .junk, .junk, .junk, .junk, .junk, .junk, .junk, .junk, .junk, .junk, .junk, .junk, .junk, .junk, .junk, .junk, .junk]) (fun k => [⟨1, 38, 3, [encE a], 0⟩, ⟨1, 38, 3, [encE b], 0⟩]) (fun k => ∀ j, (h : j < a.next.length) → j < k → a.next[j] = b.next[j]'(by omega)) ?_ (by simp) (fun k hk hr => ?_) (fun hr => ?_)
        · exact Weak.cov (by (conv => whnf); (repeat (refine ⟨rfl, ?_⟩; (conv => whnf))); exact trivial)
        · conv => whnf
          refine ⟨fun h => ?_, fun h => absurd h (by simp; omega)⟩
          conv => whnf
          refine ⟨⟨false, []⟩, by kernel_rfl, ?_⟩; (conv => whnf)
          refine ⟨by omega, encI a.next[k], by simp [hk], ?_⟩
          (conv => whnf); (try (refine ⟨(rfl : (_ : Heap) = _), ?_⟩; (conv => whnf)))
          refine ⟨by omega, encI (b.next[k]'(by omega)), by rw [toNat_cast, List.getElem?_map, List.getElem?_eq_getElem (by omega)]; rfl, ?_⟩
          (conv => whnf); (try (refine ⟨(rfl : (_ : Heap) = _), ?_⟩; (conv => whnf)))
          refine ⟨fun h4 => ?_, fun h4 => ?_⟩
          · (conv => whnf); (try (refine ⟨(rfl : (_ : Heap) = _), ?_⟩; (conv => whnf)))
            refine .inr ⟨by simp, ?_⟩
            conv => whnf
            (exact ⟨.inl rfl, _, .refl _, congrArg (fun b => some (C.v (Value.bool b))) (by symm; rw [beq_eq_false_iff_ne]; intro e; simp [e] at h4)⟩)
          · (conv => whnf); (try (refine ⟨(rfl : (_ : Heap) = _), ?_⟩; (conv => whnf)))
            refine .inl ⟨rfl, ?_, ?_⟩
            · rw [i64_nat (by omega)]
              exact Weak.covD 2 (by (conv => whnf); (repeat (refine ⟨rfl, ?_⟩; (conv => whnf))); exact trivial) rfl rfl rfl rfl rfl
            · intro j hj hjk
              by_cases e : j = k
              · subst e; simpa using h4
              · exact hr j hj (by omega)
        · conv => whnf
          refine ⟨fun h => absurd h (by simp), fun h => ?_⟩
          conv => whnf
          refine ⟨by simp, ?_⟩
          conv => whnf
          (exact ⟨.inl rfl, _, .refl _, congrArg (fun b => some (C.v (Value.bool b))) (by symm; rw [beq_iff_eq]; exact List.ext_getElem hl fun j h1 h2 => hr j h1 h1)⟩)

end Go.Slp
