/- Layer 14 (slots): the statement SlotsBack, walked. -/
import Derived.Test.YtephgjkcoopocaaSlpI
namespace Go.Slp
open Go.Ab Go.Proofs Go.Hy
set_option linter.unusedVariables false
set_option maxRecDepth 100000

theorem tag_sound (x : Int) (h : u64 x) : SoundAt Try.prog 42 [] [U x] (.v (.int .u32 (x / 4294967296))) [] :=
  of_calls [] (fun w => (Ytephgjkcoopocaa.tag_any x w (u64_lt h).1 (u64_lt h).2).mono fun e w' ⟨h1, h2⟩ => ⟨h1, h2.symm⟩) args1 fun E => .v _ rfl

theorem backL_sound (e : En) (he : e.ok) : SoundAt Try.prog 11 [] [Ev e] (Bo true) [] := by
  obtain ⟨⟨a, i, f⟩, hp⟩ : ∃ r, popV e = r := ⟨_, rfl⟩
  have hps := pop_sound e he
  rw [hp] at hps
  refine SoundAt.of_wpA1 (fn := Try.f11) Try.func11 rfl ?_
  conv => whnf
  refine ⟨_, _, (hps).frame rfl _, ?_⟩; (conv => whnf); (try (refine ⟨(rfl : (_ : Heap) = _), ?_⟩; (conv => whnf)))
  refine ⟨fun h0 => ?_, fun h0 => ?_⟩
  · (conv => whnf); (try (refine ⟨(rfl : (_ : Heap) = _), ?_⟩; (conv => whnf)))
    refine ⟨_, _, (stacked_sound).frame rfl _, ?_⟩; (conv => whnf); (try (refine ⟨(rfl : (_ : Heap) = _), ?_⟩; (conv => whnf)))
    (repeat (first | (refine ⟨fun _ => ?_, fun h => absurd h (by decide)⟩; (conv => whnf); (try (refine ⟨(rfl : (_ : Heap) = _), ?_⟩; (conv => whnf)))) | (refine ⟨fun h => absurd h (by decide), fun _ => ?_⟩; (conv => whnf); (try (refine ⟨(rfl : (_ : Heap) = _), ?_⟩; (conv => whnf))))))
    exact ⟨.inl rfl, _, .refl _, rfl⟩
  (conv => whnf); (try (refine ⟨(rfl : (_ : Heap) = _), ?_⟩; (conv => whnf)))
  refine ⟨fun h1 => ?_, fun h1 => ?_⟩
  · (conv => whnf); (try (refine ⟨(rfl : (_ : Heap) = _), ?_⟩; (conv => whnf)))
    refine ⟨_, _, (stacked_sound).frame rfl _, ?_⟩; (conv => whnf); (try (refine ⟨(rfl : (_ : Heap) = _), ?_⟩; (conv => whnf)))
    (repeat (first | (refine ⟨fun _ => ?_, fun h => absurd h (by decide)⟩; (conv => whnf); (try (refine ⟨(rfl : (_ : Heap) = _), ?_⟩; (conv => whnf)))) | (refine ⟨fun h => absurd h (by decide), fun _ => ?_⟩; (conv => whnf); (try (refine ⟨(rfl : (_ : Heap) = _), ?_⟩; (conv => whnf))))))
    exact ⟨.inl rfl, _, .refl _, rfl⟩
  obtain rfl : f = 0 := by simpa using h1
  obtain ⟨p1, p2, p3, p4, p5, p6, p7, p8, p9⟩ := pop_law he hp
  obtain ⟨b, q1, q2, q3, q4, q5⟩ := back_law he hp
  obtain ⟨g1, g2, g3, g4⟩ := head_in p1 p2
  have hf := free_sound e he
  rw [p9] at hf
  have hfa := free_sound a p7
  have hpu := push_sound a i p7
  rw [q1] at hpu
  have hfb := free_sound b q4
  rw [q2, p9] at hfb
  have hfl := free_len p7
  have hfe := free_len he
  rw [p9] at hfe
  rw [show freeV a = ((freeV a).1, 0) from by rw [← p8]] at hfa
  generalize hw : (freeV a).1 = w at *
  have hi := (isV_ok p1).2.2.1
  have ha : a.head = nextT e.head (nxt e.next (headI e)) := by rw [p4]
  have ta : a.head / 4294967296 = (e.head / 4294967296 + 1) % 4294967296 := by rw [ha]; exact nextT_tag g3 (by omega)
  have tb : b.head / 4294967296 = (a.head / 4294967296 + 1) % 4294967296 := by rw [q5]; exact nextT_tag (by omega) (by omega)
  have hu := u64_lt he.1
  (conv => whnf); (try (refine ⟨(rfl : (_ : Heap) = _), ?_⟩; (conv => whnf)))
  refine ⟨_, _, (hf).frame rfl _, ?_⟩; (conv => whnf); (try (refine ⟨(rfl : (_ : Heap) = _), ?_⟩; (conv => whnf)))
  refine ⟨_, _, (hfa).frame rfl _, ?_⟩; (conv => whnf); (try (refine ⟨(rfl : (_ : Heap) = _), ?_⟩; (conv => whnf)))
  refine ⟨_, _, (hpu).frame rfl _, ?_⟩; (conv => whnf); (try (refine ⟨(rfl : (_ : Heap) = _), ?_⟩; (conv => whnf)))
  refine ⟨_, _, (hfb).frame rfl _, ?_⟩; (conv => whnf); (try (refine ⟨(rfl : (_ : Heap) = _), ?_⟩; (conv => whnf)))
  (repeat (first | (refine ⟨fun _ => ?_, ?_⟩; rotate_left 1; (focus (intro h; simp at h; done)); ((conv => whnf); (try (refine ⟨(rfl : (_ : Heap) = _), ?_⟩; (conv => whnf))))) | (refine ⟨?_, fun _ => ?_⟩; (focus (intro h; simp at h; done)); ((conv => whnf); (try (refine ⟨(rfl : (_ : Heap) = _), ?_⟩; (conv => whnf)))))))
  refine ⟨fun h => absurd h (by simp; omega), fun _ => ?_⟩
  (conv => whnf); (try (refine ⟨(rfl : (_ : Heap) = _), ?_⟩; (conv => whnf)))
  refine ⟨⟨false, []⟩, by kernel_rfl, ?_⟩; (conv => whnf)
  refine ⟨_, _, (stacked_sound).frame rfl _, ?_⟩; (conv => whnf); (try (refine ⟨(rfl : (_ : Heap) = _), ?_⟩; (conv => whnf)))
  (repeat (first | (refine ⟨fun _ => ?_, fun h => absurd h (by decide)⟩; (conv => whnf); (try (refine ⟨(rfl : (_ : Heap) = _), ?_⟩; (conv => whnf)))) | (refine ⟨fun h => absurd h (by decide), fun _ => ?_⟩; (conv => whnf); (try (refine ⟨(rfl : (_ : Heap) = _), ?_⟩; (conv => whnf))))))
  refine ⟨by omega, encI i, rfl, ?_⟩
  (conv => whnf); (try (refine ⟨(rfl : (_ : Heap) = _), ?_⟩; (conv => whnf)))
  refine ⟨fun _ => ?_, fun h => absurd h (by simp)⟩; (conv => whnf); (try (refine ⟨(rfl : (_ : Heap) = _), ?_⟩; (conv => whnf)))
  refine ⟨.inr rfl, ?_⟩
  (conv => whnf); (try (refine ⟨(rfl : (_ : Heap) = _), ?_⟩; (conv => whnf)))
  refine ⟨by omega, by simp, ?_⟩
  conv => whnf
  have s1 : SoundAt Try.prog 37 [] [.lst 0 1 ((List.map encI (i :: w)).drop 1), lI w] (Bo true) [] := sameII hfl
  refine ⟨_, _, (s1).frame rfl _, ?_⟩; (conv => whnf); (try (refine ⟨(rfl : (_ : Heap) = _), ?_⟩; (conv => whnf)))
  (repeat (first | (refine ⟨fun _ => ?_, fun h => absurd h (by decide)⟩; (conv => whnf); (try (refine ⟨(rfl : (_ : Heap) = _), ?_⟩; (conv => whnf)))) | (refine ⟨fun h => absurd h (by decide), fun _ => ?_⟩; (conv => whnf); (try (refine ⟨(rfl : (_ : Heap) = _), ?_⟩; (conv => whnf))))))
  refine ⟨_, _, (sameII (a := i :: w) hfe).frame rfl _, ?_⟩; (conv => whnf); (try (refine ⟨(rfl : (_ : Heap) = _), ?_⟩; (conv => whnf)))
  (repeat (first | (refine ⟨fun _ => ?_, fun h => absurd h (by decide)⟩; (conv => whnf); (try (refine ⟨(rfl : (_ : Heap) = _), ?_⟩; (conv => whnf)))) | (refine ⟨fun h => absurd h (by decide), fun _ => ?_⟩; (conv => whnf); (try (refine ⟨(rfl : (_ : Heap) = _), ?_⟩; (conv => whnf))))))
  have ua := u64_lt p7.1
  refine ⟨fun _ => ?_, fun h => absurd (show a.head = e.head by simpa using h) (by omega)⟩
  (conv => whnf); (try (refine ⟨(rfl : (_ : Heap) = _), ?_⟩; (conv => whnf)))
  refine ⟨fun _ => ?_, fun h => absurd (show b.head = a.head by simpa using h) (by omega)⟩
  (conv => whnf); (try (refine ⟨(rfl : (_ : Heap) = _), ?_⟩; (conv => whnf)))
  refine ⟨fun _ => ?_, fun h => absurd (show b.head = e.head by simpa using h) (by omega)⟩
  (conv => whnf); (try (refine ⟨(rfl : (_ : Heap) = _), ?_⟩; (conv => whnf)))
  refine ⟨_, _, (tag_sound b.head q4.1).frame rfl _, ?_⟩; (conv => whnf); (try (refine ⟨(rfl : (_ : Heap) = _), ?_⟩; (conv => whnf)))
  refine ⟨_, _, (tag_sound e.head he.1).frame rfl _, ?_⟩; (conv => whnf); (try (refine ⟨(rfl : (_ : Heap) = _), ?_⟩; (conv => whnf)))
  have hwr : IntKind.u32.wrap (e.head / 4294967296 + 2) = b.head / 4294967296 := by
    have : IntKind.u32.wrap (e.head / 4294967296 + 2) = (e.head / 4294967296 + 2) % 4294967296 := rfl
    omega
  rw [hwr]
  (first | (refine ⟨fun _ => ?_, ?_⟩; rotate_left 1; (focus (intro h; simp at h; done)); ((conv => whnf); (try (refine ⟨(rfl : (_ : Heap) = _), ?_⟩; (conv => whnf))))) | (refine ⟨?_, fun _ => ?_⟩; (focus (intro h; simp at h; done)); ((conv => whnf); (try (refine ⟨(rfl : (_ : Heap) = _), ?_⟩; (conv => whnf))))))
  refine ⟨_, _, (is_sound a p7).frame rfl _, ?_⟩; (conv => whnf); (try (refine ⟨(rfl : (_ : Heap) = _), ?_⟩; (conv => whnf)))
  refine ⟨fun _ => ?_, fun h => absurd ((p6).symm.trans h : true = false) (by decide)⟩; (conv => whnf); (try (refine ⟨(rfl : (_ : Heap) = _), ?_⟩; (conv => whnf)))
  refine ⟨_, _, (is_sound b q4).frame rfl _, ?_⟩; (conv => whnf); (try (refine ⟨(rfl : (_ : Heap) = _), ?_⟩; (conv => whnf)))
  refine ⟨fun _ => ?_, fun h => absurd ((q3).symm.trans h : true = false) (by decide)⟩; (conv => whnf); (try (refine ⟨(rfl : (_ : Heap) = _), ?_⟩; (conv => whnf)))
  exact ⟨.inl rfl, _, .refl _, rfl⟩

end Go.Slp
