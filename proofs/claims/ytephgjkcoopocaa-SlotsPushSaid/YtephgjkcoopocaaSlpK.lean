/- Layer 14 (slots): the statements SlotsPush and SlotsDrain, walked. -/
import Derived.Test.YtephgjkcoopocaaSlpI
namespace Go.Slp
open Go.Ab Go.Proofs Go.Hy
set_option linter.unusedVariables false
set_option maxRecDepth 100000

/-! ### Plain -/

theorem pop_some {d : En} (hd : d.ok) (h : isV d = true) {x : Int} {xs : List Int} (hf : freeV d = (x :: xs, 0)) : ∃ a, popV d = (a, x, 0) ∧ freeV a = (xs, 0) ∧ isV a = true ∧ a.ok ∧ a.active = d.active ∧ a.next = d.next := by
  have h0 : ¬ headI d < 0 := fun h0 => by
    rw [free_of (isV_ok h).1, cnt_zero (isV_ok h).1 h0] at hf
    simp [visV] at hf
  have hp : popV d = (⟨nextT d.head (nxt d.next (headI d)), d.next, d.active⟩, headI d, 0) := by unfold popV; rw [if_neg (by simp [h]), if_neg h0]
  obtain ⟨p1, p2, p3, p4, p5, p6, p7, p8, p9⟩ := pop_law hd hp
  rw [hf] at p9
  simp only [Prod.mk.injEq, List.cons.injEq] at p9
  obtain ⟨⟨rfl, rfl⟩, _⟩ := p9
  exact ⟨_, hp, by rw [← p8], p6, p7, rfl, rfl⟩
theorem pop_none {d : En} (h : isV d = true) (hf : (freeV d).1 = []) : popV d = (no, 0, 5) := by
  have h0 : headI d < 0 := by
    rcases Int.lt_or_le (headI d) 0 with h1 | h1
    · exact h1
    · exfalso
      have := cnt_pos (isV_ok h).1 (by omega : ¬ headI d < 0)
      rw [free_of (isV_ok h).1] at hf
      have := congrArg List.length hf
      simp only at this
      rw [vis_len] at this
      simp at this
      omega
  unfold popV
  rw [if_neg (by simp [h]), if_pos h0]

def drainV (e : En) : Nat → En
  | 0 => e
  | k + 1 => (popV (drainV e k)).1
theorem drain_law {e : En} (he : e.ok) (h : isV e = true) : ∀ {k : Nat}, k ≤ (freeV e).1.length → isV (drainV e k) = true ∧ (drainV e k).ok ∧ freeV (drainV e k) = ((freeV e).1.drop k, 0) ∧ (drainV e k).active = e.active
  | 0, _ => ⟨h, he, by show freeV e = _; rw [free_of (isV_ok h).1]; simp, rfl⟩
  | k + 1, hk => by
    obtain ⟨h1, h2, h3, h4⟩ := drain_law he h (k := k) (by omega)
    rw [List.drop_eq_getElem_cons (by omega)] at h3
    obtain ⟨a, a1, a2, a3, a4, a5, _⟩ := pop_some h2 h1 h3
    have e1 : drainV e (k + 1) = a := by show (popV (drainV e k)).1 = a; rw [a1]
    rw [e1]
    exact ⟨a3, a4, a2, a5.trans h4⟩
theorem drain_step {e : En} (he : e.ok) (h : isV e = true) {k : Nat} (hk : k < (freeV e).1.length) : popV (drainV e k) = (drainV e (k + 1), (freeV e).1[k], 0) := by
  obtain ⟨h1, h2, h3, h4⟩ := drain_law he h (k := k) (by omega)
  rw [List.drop_eq_getElem_cons hk] at h3
  obtain ⟨a, a1, _⟩ := pop_some h2 h1 h3
  have e1 : drainV e (k + 1) = a := by show (popV (drainV e k)).1 = a; rw [a1]
  rw [a1, e1]

/-! ### Walked -/

theorem pushL_sound (e : En) (slot : Int) (he : e.ok) : SoundAt Try.prog 12 [] [Ev e, I slot] (Bo true) [] := by
  obtain ⟨⟨a, f⟩, hp⟩ : ∃ r, pushV e slot = r := ⟨_, rfl⟩
  have hps := push_sound e slot he
  rw [hp] at hps
  refine SoundAt.of_wpA1 (fn := Try.f12) Try.func12 rfl ?_
  conv => whnf
  refine ⟨_, _, (hps).frame rfl _, ?_⟩; (conv => whnf); (try (refine ⟨(rfl : (_ : Heap) = _), ?_⟩; (conv => whnf)))
  refine ⟨fun h0 => ?_, fun h0 => ?_⟩
  · (conv => whnf); (try (refine ⟨(rfl : (_ : Heap) = _), ?_⟩; (conv => whnf)))
    refine ⟨_, _, (stacked_sound).frame rfl _, ?_⟩; (conv => whnf); (try (refine ⟨(rfl : (_ : Heap) = _), ?_⟩; (conv => whnf)))
    (repeat (first | (refine ⟨fun _ => ?_, fun h => absurd h (by decide)⟩; (conv => whnf); (try (refine ⟨(rfl : (_ : Heap) = _), ?_⟩; (conv => whnf)))) | (refine ⟨fun h => absurd h (by decide), fun _ => ?_⟩; (conv => whnf); (try (refine ⟨(rfl : (_ : Heap) = _), ?_⟩; (conv => whnf))))))
    exact ⟨.inl rfl, _, .refl _, rfl⟩
  (conv => whnf); (try (refine ⟨(rfl : (_ : Heap) = _), ?_⟩; (conv => whnf)))
  refine ⟨fun h1 => ?_, fun h1 => ?_⟩
  · (conv => whnf); (try (refine ⟨(rfl : (_ : Heap) = _), ?_⟩; (conv => whnf)))
    refine ⟨_, _, (stacked_sound).frame rfl _, ?_⟩; (conv => whnf); (try (refine ⟨(rfl : (_ : Heap) = _), ?_⟩; (conv => whnf)))
    (repeat (first | (refine ⟨fun _ => ?_, fun h => absurd h (by decide)⟩; (conv => whnf); (try (refine ⟨(rfl : (_ : Heap) = _), ?_⟩; (conv => whnf)))) | (refine ⟨fun h => absurd h (by decide), fun _ => ?_⟩; (conv => whnf); (try (refine ⟨(rfl : (_ : Heap) = _), ?_⟩; (conv => whnf))))))
    exact ⟨.inl rfl, _, .refl _, rfl⟩
  obtain rfl : f = 0 := by simpa using h1
  obtain ⟨p1, p2, p3, p4, p5, p6, p7, p8, p9⟩ := push_law he hp
  obtain ⟨b, q1, q2, q3, q4, q5, q6⟩ := pop_some p7 p6 p9
  have hf := free_sound e he
  have hfa := free_sound a p7
  rw [p9] at hfa
  have hpo := pop_sound a p7
  rw [q1] at hpo
  have hfb := free_sound b q4
  rw [q2] at hfb
  have hfl := free_len he
  have hfe := free_len p7
  rw [p9] at hfe
  rw [show freeV e = ((freeV e).1, 0) from by rw [← p8]] at hf
  have ha : a.active = e.active := by rw [p4]
  generalize hw : (freeV e).1 = w at *
  have hwl : w.length < 4611686018427387904 := hfl
  (conv => whnf); (try (refine ⟨(rfl : (_ : Heap) = _), ?_⟩; (conv => whnf)))
  refine ⟨_, _, (hf).frame rfl _, ?_⟩; (conv => whnf); (try (refine ⟨(rfl : (_ : Heap) = _), ?_⟩; (conv => whnf)))
  refine ⟨_, _, (hfa).frame rfl _, ?_⟩; (conv => whnf); (try (refine ⟨(rfl : (_ : Heap) = _), ?_⟩; (conv => whnf)))
  refine ⟨_, _, (hpo).frame rfl _, ?_⟩; (conv => whnf); (try (refine ⟨(rfl : (_ : Heap) = _), ?_⟩; (conv => whnf)))
  refine ⟨_, _, (hfb).frame rfl _, ?_⟩; (conv => whnf); (try (refine ⟨(rfl : (_ : Heap) = _), ?_⟩; (conv => whnf)))
  (repeat (first | (refine ⟨fun _ => ?_, ?_⟩; rotate_left 1; (focus (intro h; simp at h; done)); ((conv => whnf); (try (refine ⟨(rfl : (_ : Heap) = _), ?_⟩; (conv => whnf))))) | (refine ⟨?_, fun _ => ?_⟩; (focus (intro h; simp at h; done)); ((conv => whnf); (try (refine ⟨(rfl : (_ : Heap) = _), ?_⟩; (conv => whnf)))))))
  have hlm : (List.map encI w).length = w.length := List.length_map ..
  have hlm2 : ((List.map encI (slot :: w)).length : Int) = w.length + 1 := by simp
  refine ⟨fun h => absurd h (by rw [i64_ok (by simp; omega) (by simp; omega)]; simp), fun _ => ?_⟩
  (conv => whnf); (try (refine ⟨(rfl : (_ : Heap) = _), ?_⟩; (conv => whnf)))
  refine ⟨_, _, (stacked_sound).frame rfl _, ?_⟩; (conv => whnf); (try (refine ⟨(rfl : (_ : Heap) = _), ?_⟩; (conv => whnf)))
  (repeat (first | (refine ⟨fun _ => ?_, fun h => absurd h (by decide)⟩; (conv => whnf); (try (refine ⟨(rfl : (_ : Heap) = _), ?_⟩; (conv => whnf)))) | (refine ⟨fun h => absurd h (by decide), fun _ => ?_⟩; (conv => whnf); (try (refine ⟨(rfl : (_ : Heap) = _), ?_⟩; (conv => whnf))))))
  (first | (refine ⟨fun _ => ?_, ?_⟩; rotate_left 1; (focus (intro h; simp at h; done)); ((conv => whnf); (try (refine ⟨(rfl : (_ : Heap) = _), ?_⟩; (conv => whnf))))) | (refine ⟨?_, fun _ => ?_⟩; (focus (intro h; simp at h; done)); ((conv => whnf); (try (refine ⟨(rfl : (_ : Heap) = _), ?_⟩; (conv => whnf))))))
  refine ⟨by omega, encI slot, rfl, ?_⟩
  (conv => whnf); (try (refine ⟨(rfl : (_ : Heap) = _), ?_⟩; (conv => whnf)))
  (first | (refine ⟨fun _ => ?_, ?_⟩; rotate_left 1; (focus (intro h; simp at h; done)); ((conv => whnf); (try (refine ⟨(rfl : (_ : Heap) = _), ?_⟩; (conv => whnf))))) | (refine ⟨?_, fun _ => ?_⟩; (focus (intro h; simp at h; done)); ((conv => whnf); (try (refine ⟨(rfl : (_ : Heap) = _), ?_⟩; (conv => whnf))))))
  refine ⟨.inr rfl, ?_⟩
  (conv => whnf); (try (refine ⟨(rfl : (_ : Heap) = _), ?_⟩; (conv => whnf)))
  refine ⟨by omega, by simp, ?_⟩
  conv => whnf
  have s1 : SoundAt Try.prog 37 [] [.lst 0 1 ((List.map encI (slot :: w)).drop 1), lI w] (Bo true) [] := sameII hfl
  refine ⟨_, _, (s1).frame rfl _, ?_⟩; (conv => whnf); (try (refine ⟨(rfl : (_ : Heap) = _), ?_⟩; (conv => whnf)))
  (repeat (first | (refine ⟨fun _ => ?_, fun h => absurd h (by decide)⟩; (conv => whnf); (try (refine ⟨(rfl : (_ : Heap) = _), ?_⟩; (conv => whnf)))) | (refine ⟨fun h => absurd h (by decide), fun _ => ?_⟩; (conv => whnf); (try (refine ⟨(rfl : (_ : Heap) = _), ?_⟩; (conv => whnf))))))
  refine ⟨_, _, (sameII (a := w) hfl).frame rfl _, ?_⟩; (conv => whnf); (try (refine ⟨(rfl : (_ : Heap) = _), ?_⟩; (conv => whnf)))
  (repeat (first | (refine ⟨fun _ => ?_, fun h => absurd h (by decide)⟩; (conv => whnf); (try (refine ⟨(rfl : (_ : Heap) = _), ?_⟩; (conv => whnf)))) | (refine ⟨fun h => absurd h (by decide), fun _ => ?_⟩; (conv => whnf); (try (refine ⟨(rfl : (_ : Heap) = _), ?_⟩; (conv => whnf))))))
  refine ⟨fun _ => ?_, fun h => absurd h (by rw [show (a, (0 : Int)).1 = a from rfl, ha]; simp)⟩
  (conv => whnf); (try (refine ⟨(rfl : (_ : Heap) = _), ?_⟩; (conv => whnf)))
  exact ⟨.inl rfl, _, .refl _, rfl⟩

theorem drainL_sound (e : En) (he : e.ok) : SoundAt Try.prog 13 [] [Ev e] (Bo true) [] := by
  have hfl := free_len he
  have hlm : (List.map encI (freeV e).1).length = (freeV e).1.length := List.length_map ..
  refine SoundAt.of_wpA1 (fn := Try.f13) Try.func13 rfl ?_
  conv => whnf
  refine ⟨fun h0 => ?_, fun h0 => ?_⟩
  · (conv => whnf); (try (refine ⟨(rfl : (_ : Heap) = _), ?_⟩; (conv => whnf)))
    refine ⟨_, _, (stacked_sound).frame rfl _, ?_⟩; (conv => whnf); (try (refine ⟨(rfl : (_ : Heap) = _), ?_⟩; (conv => whnf)))
    (repeat (first | (refine ⟨fun _ => ?_, fun h => absurd h (by decide)⟩; (conv => whnf); (try (refine ⟨(rfl : (_ : Heap) = _), ?_⟩; (conv => whnf)))) | (refine ⟨fun h => absurd h (by decide), fun _ => ?_⟩; (conv => whnf); (try (refine ⟨(rfl : (_ : Heap) = _), ?_⟩; (conv => whnf))))))
    exact ⟨.inl rfl, _, .refl _, rfl⟩
  (conv => whnf); (try (refine ⟨(rfl : (_ : Heap) = _), ?_⟩; (conv => whnf)))
  refine ⟨_, _, (is_sound e he).frame rfl _, ?_⟩; (conv => whnf); (try (refine ⟨(rfl : (_ : Heap) = _), ?_⟩; (conv => whnf)))
  refine ⟨fun h1 => ?_, fun h1 => ?_⟩
  rotate_left 1
  · (conv => whnf); (try (refine ⟨(rfl : (_ : Heap) = _), ?_⟩; (conv => whnf)))
    refine ⟨_, _, (stacked_sound).frame rfl _, ?_⟩; (conv => whnf); (try (refine ⟨(rfl : (_ : Heap) = _), ?_⟩; (conv => whnf)))
    (repeat (first | (refine ⟨fun _ => ?_, fun h => absurd h (by decide)⟩; (conv => whnf); (try (refine ⟨(rfl : (_ : Heap) = _), ?_⟩; (conv => whnf)))) | (refine ⟨fun h => absurd h (by decide), fun _ => ?_⟩; (conv => whnf); (try (refine ⟨(rfl : (_ : Heap) = _), ?_⟩; (conv => whnf))))))
    exact ⟨.inl rfl, _, .refl _, rfl⟩
  have hf := free_sound e he
  rw [show freeV e = ((freeV e).1, 0) from by rw [free_of (isV_ok h1).1]] at hf
  (conv => whnf); (try (refine ⟨(rfl : (_ : Heap) = _), ?_⟩; (conv => whnf)))
  refine ⟨_, _, (hf).frame rfl _, ?_⟩; (conv => whnf); (try (refine ⟨(rfl : (_ : Heap) = _), ?_⟩; (conv => whnf)))
  (repeat (first | (refine ⟨fun _ => ?_, ?_⟩; rotate_left 1; (focus (intro h; simp at h; done)); ((conv => whnf); (try (refine ⟨(rfl : (_ : Heap) = _), ?_⟩; (conv => whnf))))) | (refine ⟨?_, fun _ => ?_⟩; (focus (intro h; simp at h; done)); ((conv => whnf); (try (refine ⟨(rfl : (_ : Heap) = _), ?_⟩; (conv => whnf)))))))
  refine Loops.seq (freeV e).1.length (fun k => [.junk, .ref 0 [] 3 0 0, Bo false, lI (freeV e).1, I 0, .ref 1 [] 3 0 0, I k, .junk, .junk, .junk, .junk, .junk, .junk, .junk, .junk, .junk, .junk, .junk, .junk, .junk, .junk, .junk, .junk, .junk, .junk, .junk, .junk, .junk, .junk, .junk, .junk, .junk, .junk, .junk, .junk, .junk, .junk, .junk, .junk, .junk, .junk, .junk, .junk, .junk, .junk, .junk, .junk, .junk, .junk, .junk, .junk, .junk, .junk, .junk, .junk, .junk, .junk, .junk, .junk, .junk, .junk, .junk, .junk, .junk, .junk, .junk, .junk, .junk, .junk, .junk, .junk, .junk]) (fun k => [⟨1, 38, 3, [encE e], 0⟩, ⟨1, 38, 3, [encE (drainV e k)], 0⟩]) (fun _ => True) ?_ trivial (fun k hk _ => ?_) (fun _ => ?_)
  · exact Weak.cov (by (conv => whnf); (repeat (refine ⟨rfl, ?_⟩; (conv => whnf))); exact trivial)
  · obtain ⟨d1, d2, d3, d4⟩ := drain_law he h1 (k := k) (by omega)
    have hps := pop_sound (drainV e k) d2
    rw [drain_step he h1 hk] at hps
    have hg : (List.map encI (freeV e).1)[k]? = some (encI (freeV e).1[k]) := by rw [List.getElem?_map, List.getElem?_eq_getElem hk]; rfl
    conv => whnf
    refine ⟨fun _ => ?_, fun h => absurd h (by simp; omega)⟩
    conv => whnf
    refine ⟨_, _, (hps).frame rfl _, ?_⟩; (conv => whnf); (try (refine ⟨(rfl : (_ : Heap) = _), ?_⟩; (conv => whnf)))
    (first | (refine ⟨fun _ => ?_, ?_⟩; rotate_left 1; (focus (intro h; simp at h; done)); ((conv => whnf); (try (refine ⟨(rfl : (_ : Heap) = _), ?_⟩; (conv => whnf))))) | (refine ⟨?_, fun _ => ?_⟩; (focus (intro h; simp at h; done)); ((conv => whnf); (try (refine ⟨(rfl : (_ : Heap) = _), ?_⟩; (conv => whnf))))))
    refine ⟨by omega, _, by rw [toNat_cast]; exact hg, ?_⟩
    (conv => whnf); (try (refine ⟨(rfl : (_ : Heap) = _), ?_⟩; (conv => whnf)))
    (first | (refine ⟨fun _ => ?_, ?_⟩; rotate_left 1; (focus (intro h; simp at h; done)); ((conv => whnf); (try (refine ⟨(rfl : (_ : Heap) = _), ?_⟩; (conv => whnf))))) | (refine ⟨?_, fun _ => ?_⟩; (focus (intro h; simp at h; done)); ((conv => whnf); (try (refine ⟨(rfl : (_ : Heap) = _), ?_⟩; (conv => whnf))))))
    refine .inl ⟨rfl, ?_, trivial⟩
    rw [i64_nat (by omega)]
    exact Weak.covD 2 (by (conv => whnf); (repeat (refine ⟨rfl, ?_⟩; (conv => whnf))); exact trivial) rfl rfl rfl rfl rfl
  · obtain ⟨d1, d2, d3, d4⟩ := drain_law he h1 (k := (freeV e).1.length) (Nat.le_refl _)
    have hps := pop_sound (drainV e (freeV e).1.length) d2
    rw [pop_none d1 (by rw [d3]; simp)] at hps
    conv => whnf
    refine ⟨fun h => absurd h (by simp), fun _ => ?_⟩
    conv => whnf
    refine ⟨by simp, ?_⟩
    conv => whnf
    refine ⟨_, _, (hps).frame rfl _, ?_⟩; (conv => whnf); (try (refine ⟨(rfl : (_ : Heap) = _), ?_⟩; (conv => whnf)))
    refine ⟨_, _, (stacked_sound).frame rfl _, ?_⟩; (conv => whnf); (try (refine ⟨(rfl : (_ : Heap) = _), ?_⟩; (conv => whnf)))
    (repeat (first | (refine ⟨fun _ => ?_, fun h => absurd h (by decide)⟩; (conv => whnf); (try (refine ⟨(rfl : (_ : Heap) = _), ?_⟩; (conv => whnf)))) | (refine ⟨fun h => absurd h (by decide), fun _ => ?_⟩; (conv => whnf); (try (refine ⟨(rfl : (_ : Heap) = _), ?_⟩; (conv => whnf))))))
    refine ⟨fun _ => ?_, fun h => absurd h (by rw [d4]; simp)⟩
    (conv => whnf); (try (refine ⟨(rfl : (_ : Heap) = _), ?_⟩; (conv => whnf)))
    exact ⟨.inl rfl, _, .refl _, rfl⟩

end Go.Slp
