/- Layer 14 (slots): the statements' example, walked. -/
import Derived.Test.YtephgjkcoopocaaSlpG
import Derived.Test.YtephgjkcoopocaaSlpL
namespace Go.Slp
open Go.Ab Go.Proofs Go.Hy
set_option linter.unusedVariables false
set_option maxRecDepth 100000

theorem WC.agg {cs cs' : List C} (h : WCs cs cs') : WC (.agg cs) (.agg cs') := fun E y hl => by
  cases hl with
  | agg _ ys h1 h2 h3 =>
    have : LL E cs' ys.toList := h.LL ⟨by simpa using h1, fun i c y e1 e2 => h2 i c y e1 (by simpa using e2)⟩
    exact .agg cs' ys (by simpa using this.1) (fun i c y e1 e2 => this.2 i c y e1 (by simpa using e2)) h3

theorem freshC {n : Int} {r : En × Int} (h : freshV n = r) : SoundAt Try.prog 40 [] [I n] (tQ r) [] := h ▸ fresh_sound n
theorem popC {e : En} {r : En × Int × Int} (h : popV e = r) (he : e.ok) : SoundAt Try.prog 29 [] [Ev e] (tP r) [] := h ▸ pop_sound e he
theorem pushC {e : En} {s : Int} {r : En × Int} (h : pushV e s = r) (he : e.ok) : SoundAt Try.prog 31 [] [Ev e, I s] (tQ r) [] := h ▸ push_sound e s he
theorem freeC {e : En} {r : List Int × Int} (h : freeV e = r) (he : e.ok) : SoundAt Try.prog 33 [] [Ev e] (tF r) [] := h ▸ free_sound e he
theorem isC {e : En} {b : Bool} (h : isV e = b) (he : e.ok) : SoundAt Try.prog 38 [] [Ev e] (Bo b) [] := h ▸ is_sound e he
theorem sameC {a b : List Int} (h : (a == b) = true) (ha : a.length < 4611686018427387904) (hb : b.length < 4611686018427387904) : SoundAt Try.prog 37 [] [lI a, .lst 1 1 (b.map encI)] (Bo true) [] := by
  have := sameI_sound a b ha hb
  rw [h] at this
  exact this.pre (.cons (.refl _) (.cons (WC.share 1 1 _) .nil))
instance (e : En) : Decidable e.ok := by unfold En.ok; infer_instance

theorem stacked_sound : SoundAt Try.prog 35 [] [] (Bo true) [] := by
  refine SoundAt.of_wpA1 (fn := Try.f35) Try.func35 rfl ?_
  conv => whnf
  refine ⟨_, _, (freshC (n := 2) (r := (⟨1, [1, -1], 0⟩, 0)) rfl).frame rfl _, ?_⟩; (conv => whnf); (try (refine ⟨(rfl : (_ : Heap) = _), ?_⟩; (conv => whnf)))
  refine ⟨_, _, (popC (e := ⟨1, [1, -1], 0⟩) (r := (⟨4294967298, [1, -1], 0⟩, 0, 0)) rfl (by decide)).frame rfl _, ?_⟩; (conv => whnf); (try (refine ⟨(rfl : (_ : Heap) = _), ?_⟩; (conv => whnf)))
  refine ⟨_, _, (popC (e := ⟨4294967298, [1, -1], 0⟩) (r := (⟨8589934592, [1, -1], 0⟩, 1, 0)) rfl (by decide)).frame rfl _, ?_⟩; (conv => whnf); (try (refine ⟨(rfl : (_ : Heap) = _), ?_⟩; (conv => whnf)))
  refine ⟨_, _, (popC (e := ⟨8589934592, [1, -1], 0⟩) (r := (no, 0, 5)) rfl (by decide)).frame rfl _, ?_⟩; (conv => whnf); (try (refine ⟨(rfl : (_ : Heap) = _), ?_⟩; (conv => whnf)))
  refine ⟨_, _, (pushC (e := ⟨8589934592, [1, -1], 0⟩) (s := 0) (r := (⟨12884901889, [-1, -1], 0⟩, 0)) rfl (by decide)).frame rfl _, ?_⟩; (conv => whnf); (try (refine ⟨(rfl : (_ : Heap) = _), ?_⟩; (conv => whnf)))
  refine ⟨_, _, (pushC (e := ⟨12884901889, [-1, -1], 0⟩) (s := 0) (r := (no, 4)) rfl (by decide)).frame rfl _, ?_⟩; (conv => whnf); (try (refine ⟨(rfl : (_ : Heap) = _), ?_⟩; (conv => whnf)))
  refine ⟨_, _, (pushC (e := ⟨12884901889, [-1, -1], 0⟩) (s := 2) (r := (no, 1)) rfl (by decide)).frame rfl _, ?_⟩; (conv => whnf); (try (refine ⟨(rfl : (_ : Heap) = _), ?_⟩; (conv => whnf)))
  refine ⟨_, _, (freeC (e := ⟨12884901889, [-1, -1], 0⟩) (r := ([0], 0)) rfl (by decide)).frame rfl _, ?_⟩; (conv => whnf); (try (refine ⟨(rfl : (_ : Heap) = _), ?_⟩; (conv => whnf)))
  refine ⟨_, _, (freshC (n := 5) (r := (no, 1)) rfl).frame rfl _, ?_⟩; (conv => whnf); (try (refine ⟨(rfl : (_ : Heap) = _), ?_⟩; (conv => whnf)))
  refine ⟨_, _, ((freeC (e := ⟨1, [0], 0⟩) (r := ([], 11)) rfl (by decide)).pre (.cons (WC.agg (.cons (.refl _) (.cons (WC.share 1 1 _) (.cons (.refl _) .nil)))) .nil)).frame rfl _, ?_⟩; (conv => whnf); (try (refine ⟨(rfl : (_ : Heap) = _), ?_⟩; (conv => whnf)))
  (repeat (first | (refine ⟨fun _ => ?_, fun h => absurd h (by decide)⟩; (conv => whnf); (try (refine ⟨(rfl : (_ : Heap) = _), ?_⟩; (conv => whnf)))) | (refine ⟨fun h => absurd h (by decide), fun _ => ?_⟩; (conv => whnf); (try (refine ⟨(rfl : (_ : Heap) = _), ?_⟩; (conv => whnf))))))
  refine ⟨_, _, (sameC (a := [1, -1]) (b := [1, -1]) rfl (by decide) (by decide)).frame rfl _, ?_⟩; (conv => whnf); (try (refine ⟨(rfl : (_ : Heap) = _), ?_⟩; (conv => whnf)))
  (repeat (first | (refine ⟨fun _ => ?_, fun h => absurd h (by decide)⟩; (conv => whnf); (try (refine ⟨(rfl : (_ : Heap) = _), ?_⟩; (conv => whnf)))) | (refine ⟨fun h => absurd h (by decide), fun _ => ?_⟩; (conv => whnf); (try (refine ⟨(rfl : (_ : Heap) = _), ?_⟩; (conv => whnf))))))
  refine ⟨_, _, (sameC (a := [0]) (b := [0]) rfl (by decide) (by decide)).frame rfl _, ?_⟩; (conv => whnf); (try (refine ⟨(rfl : (_ : Heap) = _), ?_⟩; (conv => whnf)))
  (repeat (first | (refine ⟨fun _ => ?_, fun h => absurd h (by decide)⟩; (conv => whnf); (try (refine ⟨(rfl : (_ : Heap) = _), ?_⟩; (conv => whnf)))) | (refine ⟨fun h => absurd h (by decide), fun _ => ?_⟩; (conv => whnf); (try (refine ⟨(rfl : (_ : Heap) = _), ?_⟩; (conv => whnf))))))
  refine ⟨_, _, (isC (e := ⟨1, [1, -1], 0⟩) (b := true) rfl (by decide)).frame rfl _, ?_⟩; (conv => whnf); (try (refine ⟨(rfl : (_ : Heap) = _), ?_⟩; (conv => whnf)))
  (repeat (first | (refine ⟨fun _ => ?_, fun h => absurd h (by decide)⟩; (conv => whnf); (try (refine ⟨(rfl : (_ : Heap) = _), ?_⟩; (conv => whnf)))) | (refine ⟨fun h => absurd h (by decide), fun _ => ?_⟩; (conv => whnf); (try (refine ⟨(rfl : (_ : Heap) = _), ?_⟩; (conv => whnf))))))
  refine ⟨_, _, ((isC (e := no) (b := false) rfl (by decide)).pre (.cons (WC.agg (.cons (.refl _) (.cons (WC.nil 0 1) (.cons (.refl _) .nil)))) .nil)).frame rfl _, ?_⟩; (conv => whnf); (try (refine ⟨(rfl : (_ : Heap) = _), ?_⟩; (conv => whnf)))
  (repeat (first | (refine ⟨fun _ => ?_, fun h => absurd h (by decide)⟩; (conv => whnf); (try (refine ⟨(rfl : (_ : Heap) = _), ?_⟩; (conv => whnf)))) | (refine ⟨fun h => absurd h (by decide), fun _ => ?_⟩; (conv => whnf); (try (refine ⟨(rfl : (_ : Heap) = _), ?_⟩; (conv => whnf))))))
  exact ⟨.inl rfl, _, .refl _, rfl⟩

end Go.Slp
