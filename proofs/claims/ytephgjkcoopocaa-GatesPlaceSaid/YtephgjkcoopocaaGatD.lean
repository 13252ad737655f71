/- Layer 17 (gates): the statements' example, walked. -/
import Derived.Test.YtephgjkcoopocaaGatC
namespace Go.Gat
open Go.Ab Go.Proofs Go.Hy
set_option linter.unusedVariables false
set_option maxRecDepth 8000

abbrev L4 (n : Str) (d : Bool) (a : Int) (c : Bool) : C := .agg [Tx n, Bo d, I a, Bo c]
theorem enterC {n n2 : Str} {d c b d2 c2 : Bool} {a a2 : Int} (h : enterV ⟨n, d, a, c⟩ = (⟨n2, d2, a2, c2⟩, b)) (hl : Lis.ok ⟨n, d, a, c⟩) : SoundAt Try.prog 49 [] [L4 n d a c] (.tup [L4 n2 d2 a2 c2, Bo b]) [] := by
  have := enter_sound ⟨n, d, a, c⟩ hl
  rw [h] at this
  exact this
theorem leaveC {n n2 : Str} {d c d2 c2 : Bool} {a b a2 : Int} (h : leaveV ⟨n, d, a, c⟩ = (⟨n2, d2, a2, c2⟩, b)) (hl : Lis.ok ⟨n, d, a, c⟩) : SoundAt Try.prog 52 [] [L4 n d a c] (.tup [L4 n2 d2 a2 c2, I b]) [] := by
  have := leave_sound ⟨n, d, a, c⟩ hl
  rw [h] at this
  exact this
theorem closeC {n n2 : Str} {d c b d2 c2 : Bool} {a a2 : Int} (h : closeV ⟨n, d, a, c⟩ = (⟨n2, d2, a2, c2⟩, b)) : SoundAt Try.prog 51 [] [L4 n d a c] (.tup [L4 n2 d2 a2 c2, Bo b]) [] := by
  have := close_sound ⟨n, d, a, c⟩
  rw [h] at this
  exact this
theorem drainC {n : Str} {d c : Bool} {a : Int} : SoundAt Try.prog 50 [] [L4 n d a c] (L4 n true a c) [] := drain_sound ⟨n, d, a, c⟩
theorem isC {l : Lis} {b : Bool} (h : isV l = b) (hl : l.ok) : SoundAt Try.prog 53 [] [Li l] (Bo b) [] := h ▸ is_sound l hl
theorem placeC {l : List Lis} {s : Str} {n : Int} (h : placeV l s = n) (hl : l.length < 4611686018427387904) : SoundAt Try.prog 15 [] [lL l, Tx s] (I n) [] := h ▸ place_sound l s hl
abbrev nIn : Str := [105, 110]
abbrev nOut : Str := [111, 117, 116]
theorem okIn {d c : Bool} {a : Int} (h : i64 a) : Lis.ok ⟨nIn, d, a, c⟩ := ⟨by unfold reachBytes; simp, h⟩

theorem gone_sound : SoundAt Try.prog 16 [] [] (Bo true) [] := by
  refine SoundAt.of_wpA1 (fn := Try.f16) Try.func16 rfl ?_
  conv => whnf
  refine ⟨_, _, (enterC (n := nIn) (d := false) (a := 0) (c := false) (n2 := nIn) (d2 := false) (a2 := 1) (c2 := false) (b := true) rfl (okIn (by decide))).frame rfl _, ?_⟩; (conv => whnf); (try (refine ⟨(rfl : (_ : Heap) = _), ?_⟩; (conv => whnf)))
  (repeat (first | (refine ⟨fun _ => ?_, fun h => absurd h (by decide)⟩; (conv => whnf); (try (refine ⟨(rfl : (_ : Heap) = _), ?_⟩; (conv => whnf)))) | (refine ⟨fun h => absurd h (by decide), fun _ => ?_⟩; (conv => whnf); (try (refine ⟨(rfl : (_ : Heap) = _), ?_⟩; (conv => whnf))))))
  refine ⟨_, _, (drainC (n := nIn) (d := false) (a := 1) (c := false)).frame rfl _, ?_⟩; (conv => whnf); (try (refine ⟨(rfl : (_ : Heap) = _), ?_⟩; (conv => whnf)))
  (repeat (first | (refine ⟨fun _ => ?_, fun h => absurd h (by decide)⟩; (conv => whnf); (try (refine ⟨(rfl : (_ : Heap) = _), ?_⟩; (conv => whnf)))) | (refine ⟨fun h => absurd h (by decide), fun _ => ?_⟩; (conv => whnf); (try (refine ⟨(rfl : (_ : Heap) = _), ?_⟩; (conv => whnf))))))
  refine ⟨_, _, (enterC (n := nIn) (d := true) (a := 1) (c := false) (n2 := nIn) (d2 := true) (a2 := 1) (c2 := false) (b := false) rfl (okIn (by decide))).frame rfl _, ?_⟩; (conv => whnf); (try (refine ⟨(rfl : (_ : Heap) = _), ?_⟩; (conv => whnf)))
  (repeat (first | (refine ⟨fun _ => ?_, fun h => absurd h (by decide)⟩; (conv => whnf); (try (refine ⟨(rfl : (_ : Heap) = _), ?_⟩; (conv => whnf)))) | (refine ⟨fun h => absurd h (by decide), fun _ => ?_⟩; (conv => whnf); (try (refine ⟨(rfl : (_ : Heap) = _), ?_⟩; (conv => whnf))))))
  refine ⟨_, _, (closeC (n := nIn) (d := true) (a := 1) (c := false) (n2 := nIn) (d2 := true) (a2 := 1) (c2 := false) (b := false) rfl).frame rfl _, ?_⟩; (conv => whnf); (try (refine ⟨(rfl : (_ : Heap) = _), ?_⟩; (conv => whnf)))
  (repeat (first | (refine ⟨fun _ => ?_, fun h => absurd h (by decide)⟩; (conv => whnf); (try (refine ⟨(rfl : (_ : Heap) = _), ?_⟩; (conv => whnf)))) | (refine ⟨fun h => absurd h (by decide), fun _ => ?_⟩; (conv => whnf); (try (refine ⟨(rfl : (_ : Heap) = _), ?_⟩; (conv => whnf))))))
  refine ⟨_, _, (leaveC (n := nIn) (d := true) (a := 1) (c := false) (n2 := nIn) (d2 := true) (a2 := 0) (c2 := false) (b := 0) rfl (okIn (by decide))).frame rfl _, ?_⟩; (conv => whnf); (try (refine ⟨(rfl : (_ : Heap) = _), ?_⟩; (conv => whnf)))
  (repeat (first | (refine ⟨fun _ => ?_, fun h => absurd h (by decide)⟩; (conv => whnf); (try (refine ⟨(rfl : (_ : Heap) = _), ?_⟩; (conv => whnf)))) | (refine ⟨fun h => absurd h (by decide), fun _ => ?_⟩; (conv => whnf); (try (refine ⟨(rfl : (_ : Heap) = _), ?_⟩; (conv => whnf))))))
  refine ⟨_, _, (closeC (n := nIn) (d := true) (a := 0) (c := false) (n2 := nIn) (d2 := true) (a2 := 0) (c2 := true) (b := true) rfl).frame rfl _, ?_⟩; (conv => whnf); (try (refine ⟨(rfl : (_ : Heap) = _), ?_⟩; (conv => whnf)))
  (repeat (first | (refine ⟨fun _ => ?_, fun h => absurd h (by decide)⟩; (conv => whnf); (try (refine ⟨(rfl : (_ : Heap) = _), ?_⟩; (conv => whnf)))) | (refine ⟨fun h => absurd h (by decide), fun _ => ?_⟩; (conv => whnf); (try (refine ⟨(rfl : (_ : Heap) = _), ?_⟩; (conv => whnf))))))
  refine ⟨_, _, (closeC (n := nIn) (d := true) (a := 0) (c := true) (n2 := nIn) (d2 := true) (a2 := 0) (c2 := true) (b := false) rfl).frame rfl _, ?_⟩; (conv => whnf); (try (refine ⟨(rfl : (_ : Heap) = _), ?_⟩; (conv => whnf)))
  (repeat (first | (refine ⟨fun _ => ?_, fun h => absurd h (by decide)⟩; (conv => whnf); (try (refine ⟨(rfl : (_ : Heap) = _), ?_⟩; (conv => whnf)))) | (refine ⟨fun h => absurd h (by decide), fun _ => ?_⟩; (conv => whnf); (try (refine ⟨(rfl : (_ : Heap) = _), ?_⟩; (conv => whnf))))))
  refine ⟨_, _, (leaveC (n := nIn) (d := true) (a := 0) (c := true) (n2 := []) (d2 := false) (a2 := 0) (c2 := false) (b := 5) rfl (okIn (by decide))).frame rfl _, ?_⟩; (conv => whnf); (try (refine ⟨(rfl : (_ : Heap) = _), ?_⟩; (conv => whnf)))
  (repeat (first | (refine ⟨fun _ => ?_, fun h => absurd h (by decide)⟩; (conv => whnf); (try (refine ⟨(rfl : (_ : Heap) = _), ?_⟩; (conv => whnf)))) | (refine ⟨fun h => absurd h (by decide), fun _ => ?_⟩; (conv => whnf); (try (refine ⟨(rfl : (_ : Heap) = _), ?_⟩; (conv => whnf))))))
  refine ⟨by kernel_rfl, ?_⟩
  (conv => whnf); (try (refine ⟨(rfl : (_ : Heap) = _), ?_⟩; (conv => whnf)))
  (repeat (first | (refine ⟨fun _ => ?_, fun h => absurd h (by decide)⟩; (conv => whnf); (try (refine ⟨(rfl : (_ : Heap) = _), ?_⟩; (conv => whnf)))) | (refine ⟨fun h => absurd h (by decide), fun _ => ?_⟩; (conv => whnf); (try (refine ⟨(rfl : (_ : Heap) = _), ?_⟩; (conv => whnf))))))
  refine ⟨_, _, (isC (l := ⟨nIn, true, 0, true⟩) (b := true) rfl (okIn (by decide))).frame rfl _, ?_⟩; (conv => whnf); (try (refine ⟨(rfl : (_ : Heap) = _), ?_⟩; (conv => whnf)))
  (repeat (first | (refine ⟨fun _ => ?_, fun h => absurd h (by decide)⟩; (conv => whnf); (try (refine ⟨(rfl : (_ : Heap) = _), ?_⟩; (conv => whnf)))) | (refine ⟨fun h => absurd h (by decide), fun _ => ?_⟩; (conv => whnf); (try (refine ⟨(rfl : (_ : Heap) = _), ?_⟩; (conv => whnf))))))
  refine ⟨_, _, (isC (l := ⟨nIn, false, 0, true⟩) (b := false) rfl (okIn (by decide))).frame rfl _, ?_⟩; (conv => whnf); (try (refine ⟨(rfl : (_ : Heap) = _), ?_⟩; (conv => whnf)))
  (repeat (first | (refine ⟨fun _ => ?_, fun h => absurd h (by decide)⟩; (conv => whnf); (try (refine ⟨(rfl : (_ : Heap) = _), ?_⟩; (conv => whnf)))) | (refine ⟨fun h => absurd h (by decide), fun _ => ?_⟩; (conv => whnf); (try (refine ⟨(rfl : (_ : Heap) = _), ?_⟩; (conv => whnf))))))
  refine ⟨_, _, ((placeC (l := [⟨nIn, false, 0, false⟩, ⟨nIn, true, 0, true⟩]) (s := nIn) (n := 0) rfl (by decide)).pre (.cons (WC.share 1 4 _) (.cons (.refl _) .nil))).frame rfl _, ?_⟩; (conv => whnf); (try (refine ⟨(rfl : (_ : Heap) = _), ?_⟩; (conv => whnf)))
  (repeat (first | (refine ⟨fun _ => ?_, fun h => absurd h (by decide)⟩; (conv => whnf); (try (refine ⟨(rfl : (_ : Heap) = _), ?_⟩; (conv => whnf)))) | (refine ⟨fun h => absurd h (by decide), fun _ => ?_⟩; (conv => whnf); (try (refine ⟨(rfl : (_ : Heap) = _), ?_⟩; (conv => whnf))))))
  refine ⟨_, _, ((placeC (l := [⟨nIn, false, 0, false⟩]) (s := nOut) (n := -1) rfl (by decide)).pre (.cons (WC.share 1 4 _) (.cons (.refl _) .nil))).frame rfl _, ?_⟩; (conv => whnf); (try (refine ⟨(rfl : (_ : Heap) = _), ?_⟩; (conv => whnf)))
  (repeat (first | (refine ⟨fun _ => ?_, fun h => absurd h (by decide)⟩; (conv => whnf); (try (refine ⟨(rfl : (_ : Heap) = _), ?_⟩; (conv => whnf)))) | (refine ⟨fun h => absurd h (by decide), fun _ => ?_⟩; (conv => whnf); (try (refine ⟨(rfl : (_ : Heap) = _), ?_⟩; (conv => whnf))))))
  exact ⟨.inl rfl, _, .refl _, rfl⟩

end Go.Gat
