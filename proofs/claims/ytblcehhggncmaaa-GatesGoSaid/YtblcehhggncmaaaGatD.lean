/- Layer 17 (gates): the statements' example, and the statement GatesTell, walked. -/
import Derived.Test.YtblcehhggncmaaaGatC
namespace Go.Gat
open Go.Ab Go.Proofs Go.Hy
set_option linter.unusedVariables false
set_option maxRecDepth 8000

abbrev L4 (n : Str) (d : Bool) (a : Int) (c : Bool) : C := .agg [Tx n, Bo d, I a, Bo c]
theorem enterC {n n2 : Str} {d c b d2 c2 : Bool} {a a2 : Int} (h : enterV ⟨n, d, a, c⟩ = (⟨n2, d2, a2, c2⟩, b)) (hl : Lis.ok ⟨n, d, a, c⟩) : SoundAt Try.prog 35 [] [L4 n d a c] (.tup [L4 n2 d2 a2 c2, Bo b]) [] := by
  have := enter_sound ⟨n, d, a, c⟩ hl
  rw [h] at this
  exact this
theorem leaveC {n n2 : Str} {d c d2 c2 : Bool} {a b a2 : Int} (h : leaveV ⟨n, d, a, c⟩ = (⟨n2, d2, a2, c2⟩, b)) (hl : Lis.ok ⟨n, d, a, c⟩) : SoundAt Try.prog 37 [] [L4 n d a c] (.tup [L4 n2 d2 a2 c2, I b]) [] := by
  have := leave_sound ⟨n, d, a, c⟩ hl
  rw [h] at this
  exact this
theorem closeC {n n2 : Str} {d c b d2 c2 : Bool} {a a2 : Int} (h : closeV ⟨n, d, a, c⟩ = (⟨n2, d2, a2, c2⟩, b)) : SoundAt Try.prog 39 [] [L4 n d a c] (.tup [L4 n2 d2 a2 c2, Bo b]) [] := by
  have := close_sound ⟨n, d, a, c⟩
  rw [h] at this
  exact this
theorem drainC {n : Str} {d c : Bool} {a : Int} : SoundAt Try.prog 42 [] [L4 n d a c] (L4 n true a c) [] := drain_sound ⟨n, d, a, c⟩
theorem isC {l : Lis} {b : Bool} (h : isV l = b) (hl : l.ok) : SoundAt Try.prog 44 [] [Li l] (Bo b) [] := h ▸ is_sound l hl
theorem placeC {l : List Lis} {s : Str} {n : Int} (h : placeV l s = n) (hl : l.length < 4611686018427387904) : SoundAt Try.prog 46 [] [lL l, Tx s] (I n) [] := h ▸ place_sound l s hl
abbrev nIn : Str := [105, 110]
abbrev nOut : Str := [111, 117, 116]
theorem okIn {d c : Bool} {a : Int} (h : i64 a) : Lis.ok ⟨nIn, d, a, c⟩ := ⟨by unfold reachBytes; simp, h⟩

theorem gone_sound : SoundAt Try.prog 41 [] [] (Bo true) [] := by
  refine SoundAt.of_wpA1 (fn := Try.f41) Try.func41 rfl ?_
  conv => whnf
  refine ⟨_, _, (enterC (n := nIn) (d := false) (a := 0) (c := false) (n2 := nIn) (d2 := false) (a2 := 1) (c2 := false) (b := true) rfl (okIn (by decide))).frame rfl _, ?_⟩; (conv => whnf); (try (refine ⟨(rfl : (_ : Heap) = _), ?_⟩; (conv => whnf)))
  (repeat (first | (refine ⟨fun _ => ?_, fun h => absurd h (by decide)⟩; (conv => whnf); (try (refine ⟨(rfl : (_ : Heap) = _), ?_⟩; (conv => whnf)))) | (refine ⟨fun h => absurd h (by decide), fun _ => ?_⟩; (conv => whnf); (try (refine ⟨(rfl : (_ : Heap) = _), ?_⟩; (conv => whnf))))))
  refine ⟨_, _, (drainC (n := nIn) (d := false) (a := 1) (c := false)).frame rfl _, ?_⟩; (conv => whnf); (try (refine ⟨(rfl : (_ : Heap) = _), ?_⟩; (conv => whnf)))
  (repeat (first | (refine ⟨fun _ => ?_, fun h => absurd h (by decide)⟩; (conv => whnf); (try (refine ⟨(rfl : (_ : Heap) = _), ?_⟩; (conv => whnf)))) | (refine ⟨fun h => absurd h (by decide), fun _ => ?_⟩; (conv => whnf); (try (refine ⟨(rfl : (_ : Heap) = _), ?_⟩; (conv => whnf))))))
  refine ⟨_, _, (enterC (n := nIn) (d := true) (a := 1) (c := false) (n2 := nIn) (d2 := true) (a2 := 1) (c2 := false) (b := false) rfl (okIn (by decide))).frame rfl _, ?_⟩; (conv => whnf); (try (refine ⟨(rfl : (_ : Heap) = _), ?_⟩; (conv => whnf)))
  (repeat (first | (refine ⟨fun _ => ?_, fun h => absurd h (by decide)⟩; (conv => whnf); (try (refine ⟨(rfl : (_ : Heap) = _), ?_⟩; (conv => whnf)))) | (refine ⟨fun h => absurd h (by decide), fun _ => ?_⟩; (conv => whnf); (try (refine ⟨(rfl : (_ : Heap) = _), ?_⟩; (conv => whnf))))))
  refine ⟨_, _, (closeC (n := nIn) (d := true) (a := 1) (c := false) (n2 := nIn) (d2 := true) (a2 := 1) (c2 := false) (b := false) rfl).frame rfl _, ?_⟩; (conv => whnf); (try (refine ⟨(rfl : (_ : Heap) = _), ?_⟩; (conv => whnf)))
  (repeat (first | (refine ⟨fun _ => ?_, fun h => absurd h (by decide)⟩; (conv => whnf); (try (refine ⟨(rfl : (_ : Heap) = _), ?_⟩; (conv => whnf)))) | (refine ⟨fun h => absurd h (by decide), fun _ => ?_⟩; (conv => whnf); (try (refine ⟨(rfl : (_ : Heap) = _), ?_⟩; (conv => whnf))))))
  refine ⟨_, _, (leaveC (n := nIn) (d := true) (a := 1) (c := false) (n2 := nIn) (d2 := true) (a2 := 0) (c2 := false) (b := 0) rfl (okIn (by decide))).frame rfl _, ?_⟩; (conv => whnf); (try (refine ⟨(rfl : (_ : Heap) = _), ?_⟩; (conv => whnf)))
  (repeat (first | (refine ⟨fun _ => ?_, fun h => absurd h (by decide)⟩; (conv => whnf); (try (refine ⟨(rfl : (_ : Heap) = _), ?_⟩; (conv => whnf)))) | (refine ⟨fun h => absurd h (by decide), fun _ => ?_⟩; (conv => whnf); (try (refine ⟨(rfl : (_ : Heap) = _), ?_⟩; (conv => whnf))))))
  refine ⟨_, _, (closeC (n := nIn) (d := true) (a := 0) (c := false) (n2 := nIn) (d2 := true) (a2 := 0) (c2 := true) (b := true) rfl).frame rfl _, ?_⟩; (conv => whnf); (try (refine ⟨(rfl : (_ : Heap) = _), ?_⟩; (conv => whnf)))
  (repeat (first | (refine ⟨fun _ => ?_, fun h => absurd h (by decide)⟩; (conv => whnf); (try (refine ⟨(rfl : (_ : Heap) = _), ?_⟩; (conv => whnf)))) | (refine ⟨fun h => absurd h (by decide), fun _ => ?_⟩; (conv => whnf); (try (refine ⟨(rfl : (_ : Heap) = _), ?_⟩; (conv => whnf))))))
  refine ⟨_, _, (closeC (n := nIn) (d := true) (a := 0) (c := true) (n2 := nIn) (d2 := true) (a2 := 0) (c2 := true) (b := false) rfl).frame rfl _, ?_⟩; (conv => whnf); (try (refine ⟨(rfl : (_ : Heap) = _), ?_⟩; (conv => whnf)))
  (repeat (first | (refine ⟨fun _ => ?_, fun h => absurd h (by decide)⟩; (conv => whnf); (try (refine ⟨(rfl : (_ : Heap) = _), ?_⟩; (conv => whnf)))) | (refine ⟨fun h => absurd h (by decide), fun _ => ?_⟩; (conv => whnf); (try (refine ⟨(rfl : (_ : Heap) = _), ?_⟩; (conv => whnf))))))
  refine ⟨_, _, (leaveC (n := nIn) (d := true) (a := 0) (c := true) (n2 := []) (d2 := false) (a2 := 0) (c2 := false) (b := 5) rfl (okIn (by decide))).frame rfl _, ?_⟩; (conv => whnf); (try (refine ⟨(rfl : (_ : Heap) = _), ?_⟩; (conv => whnf)))
  (repeat (first | (refine ⟨fun _ => ?_, fun h => absurd h (by decide)⟩; (conv => whnf); (try (refine ⟨(rfl : (_ : Heap) = _), ?_⟩; (conv => whnf)))) | (refine ⟨fun h => absurd h (by decide), fun _ => ?_⟩; (conv => whnf); (try (refine ⟨(rfl : (_ : Heap) = _), ?_⟩; (conv => whnf))))))
  refine ⟨by kernel_rfl, ?_⟩
  (conv => whnf); (try (refine ⟨(rfl : (_ : Heap) = _), ?_⟩; (conv => whnf)))
  (repeat (first | (refine ⟨fun _ => ?_, fun h => absurd h (by decide)⟩; (conv => whnf); (try (refine ⟨(rfl : (_ : Heap) = _), ?_⟩; (conv => whnf)))) | (refine ⟨fun h => absurd h (by decide), fun _ => ?_⟩; (conv => whnf); (try (refine ⟨(rfl : (_ : Heap) = _), ?_⟩; (conv => whnf))))))
  refine ⟨_, _, (isC (l := ⟨nIn, true, 0, true⟩) (b := true) rfl (okIn (by decide))).frame rfl _, ?_⟩; (conv => whnf); (try (refine ⟨(rfl : (_ : Heap) = _), ?_⟩; (conv => whnf)))
  (repeat (first | (refine ⟨fun _ => ?_, fun h => absurd h (by decide)⟩; (conv => whnf); (try (refine ⟨(rfl : (_ : Heap) = _), ?_⟩; (conv => whnf)))) | (refine ⟨fun h => absurd h (by decide), fun _ => ?_⟩; (conv => whnf); (try (refine ⟨(rfl : (_ : Heap) = _), ?_⟩; (conv => whnf))))))
  refine ⟨_, _, (isC (l := ⟨nIn, false, 0, true⟩) (b := false) rfl (okIn (by decide))).frame rfl _, ?_⟩; (conv => whnf); (try (refine ⟨(rfl : (_ : Heap) = _), ?_⟩; (conv => whnf)))
  (repeat (first | (refine ⟨fun _ => ?_, fun h => absurd h (by decide)⟩; (conv => whnf); (try (refine ⟨(rfl : (_ : Heap) = _), ?_⟩; (conv => whnf)))) | (refine ⟨fun h => absurd h (by decide), fun _ => ?_⟩; (conv => whnf); (try (refine ⟨(rfl : (_ : Heap) = _), ?_⟩; (conv => whnf))))))
  refine ⟨_, _, ((placeC (l := [⟨nIn, false, 0, false⟩, ⟨nIn, true, 0, true⟩]) (s := nIn) (n := 0) rfl (by decide)).pre (.cons (WC.share 1 4 _) (.cons (.refl _) .nil))).frame rfl _, ?_⟩; (conv => whnf); (try (refine ⟨(rfl : (_ : Heap) = _), ?_⟩; (conv => whnf)))
  (repeat (first | (refine ⟨fun _ => ?_, fun h => absurd h (by decide)⟩; (conv => whnf); (try (refine ⟨(rfl : (_ : Heap) = _), ?_⟩; (conv => whnf)))) | (refine ⟨fun h => absurd h (by decide), fun _ => ?_⟩; (conv => whnf); (try (refine ⟨(rfl : (_ : Heap) = _), ?_⟩; (conv => whnf))))))
  refine ⟨_, _, ((placeC (l := [⟨nIn, false, 0, false⟩]) (s := nOut) (n := -1) rfl (by decide)).pre (.cons (WC.share 1 4 _) (.cons (.refl _) .nil))).frame rfl _, ?_⟩; (conv => whnf); (try (refine ⟨(rfl : (_ : Heap) = _), ?_⟩; (conv => whnf)))
  (repeat (first | (refine ⟨fun _ => ?_, fun h => absurd h (by decide)⟩; (conv => whnf); (try (refine ⟨(rfl : (_ : Heap) = _), ?_⟩; (conv => whnf)))) | (refine ⟨fun h => absurd h (by decide), fun _ => ?_⟩; (conv => whnf); (try (refine ⟨(rfl : (_ : Heap) = _), ?_⟩; (conv => whnf))))))
  exact ⟨.inl rfl, _, .refl _, rfl⟩

set_option maxHeartbeats 4000000 in
theorem tell_sound (l : Lis) (all : List Lis) (s : Str) (hl : l.ok) (hall : all.length < 4611686018427387904) : SoundAt Try.prog 12 [] [Li l, lL all, Tx s] (Bo true) [] := by
  refine SoundAt.of_wpA1 (fn := Try.f12) Try.func12 rfl ?_
  conv => whnf
  refine ⟨fun h0 => ?_, fun h0 => ?_⟩
  · conv => whnf
    (repeat (first | (refine ⟨fun _ => ?_, fun h => absurd h (by decide)⟩; (conv => whnf); (try (refine ⟨(rfl : (_ : Heap) = _), ?_⟩; (conv => whnf)))) | (refine ⟨fun h => absurd h (by decide), fun _ => ?_⟩; (conv => whnf); (try (refine ⟨(rfl : (_ : Heap) = _), ?_⟩; (conv => whnf))))))
    exact ⟨.inl rfl, _, .refl _, rfl⟩
  conv => whnf
  refine ⟨fun h00 => ?_, fun h00 => ?_⟩
  · conv => whnf
    (repeat (first | (refine ⟨fun _ => ?_, fun h => absurd h (by decide)⟩; (conv => whnf); (try (refine ⟨(rfl : (_ : Heap) = _), ?_⟩; (conv => whnf)))) | (refine ⟨fun h => absurd h (by decide), fun _ => ?_⟩; (conv => whnf); (try (refine ⟨(rfl : (_ : Heap) = _), ?_⟩; (conv => whnf))))))
    exact ⟨.inl rfl, _, .refl _, rfl⟩
  conv => whnf
  have hs : l.name.length ≤ 100 := by simp at h00; omega
  refine ⟨_, _, (enter_sound l hl).frame rfl _, ?_⟩; (conv => whnf); (try (refine ⟨(rfl : (_ : Heap) = _), ?_⟩; (conv => whnf)))
  refine ⟨fun h1 => ?_, fun h1 => ?_⟩
  all_goals
    (conv => whnf); (try (refine ⟨(rfl : (_ : Heap) = _), ?_⟩; (conv => whnf)))
    refine ⟨_, _, (renter_sound l hl).frame rfl _, ?_⟩; (conv => whnf); (try (refine ⟨(rfl : (_ : Heap) = _), ?_⟩; (conv => whnf)))
    first | (refine ⟨fun _ => ?_, fun h => absurd ((h1).symm.trans h : true = false) (by decide)⟩; (conv => whnf); (try (refine ⟨(rfl : (_ : Heap) = _), ?_⟩; (conv => whnf)))) | (refine ⟨fun h => absurd ((h1).symm.trans h : false = true) (by decide), fun _ => ?_⟩; (conv => whnf); (try (refine ⟨(rfl : (_ : Heap) = _), ?_⟩; (conv => whnf))))
    refine ⟨_, _, (leave_sound l hl).frame rfl _, ?_⟩; (conv => whnf); (try (refine ⟨(rfl : (_ : Heap) = _), ?_⟩; (conv => whnf)))
    refine ⟨_, _, (rleave_sound l hl).frame rfl _, ?_⟩; (conv => whnf); (try (refine ⟨(rfl : (_ : Heap) = _), ?_⟩; (conv => whnf)))
    refine ⟨_, _, (close_sound l).frame rfl _, ?_⟩; (conv => whnf); (try (refine ⟨(rfl : (_ : Heap) = _), ?_⟩; (conv => whnf)))
    refine ⟨fun h2 => ?_, fun h2 => ?_⟩
    all_goals
      (conv => whnf); (try (refine ⟨(rfl : (_ : Heap) = _), ?_⟩; (conv => whnf)))
      refine ⟨_, _, (rclose_sound l).frame rfl _, ?_⟩; (conv => whnf); (try (refine ⟨(rfl : (_ : Heap) = _), ?_⟩; (conv => whnf)))
      first | (refine ⟨fun _ => ?_, fun h => absurd ((h2).symm.trans h : true = false) (by decide)⟩; (conv => whnf); (try (refine ⟨(rfl : (_ : Heap) = _), ?_⟩; (conv => whnf)))) | (refine ⟨fun h => absurd ((h2).symm.trans h : false = true) (by decide), fun _ => ?_⟩; (conv => whnf); (try (refine ⟨(rfl : (_ : Heap) = _), ?_⟩; (conv => whnf))))
      refine .inl ⟨by kernel_rfl, ?_⟩; (conv => whnf)
      refine ⟨_, _, (gone_sound).frame rfl _, ?_⟩; (conv => whnf); (try (refine ⟨(rfl : (_ : Heap) = _), ?_⟩; (conv => whnf)))
      (repeat (first | (refine ⟨fun _ => ?_, fun h => absurd h (by decide)⟩; (conv => whnf); (try (refine ⟨(rfl : (_ : Heap) = _), ?_⟩; (conv => whnf)))) | (refine ⟨fun h => absurd h (by decide), fun _ => ?_⟩; (conv => whnf); (try (refine ⟨(rfl : (_ : Heap) = _), ?_⟩; (conv => whnf))))))
      refine ⟨by kernel_rfl, ?_⟩; (conv => whnf); (try (refine ⟨(rfl : (_ : Heap) = _), ?_⟩; (conv => whnf))); refine ⟨fun _ => ?_, fun h => absurd h (by simp)⟩; (conv => whnf); (try (refine ⟨(rfl : (_ : Heap) = _), ?_⟩; (conv => whnf)))
      (repeat (first | (refine ⟨fun _ => ?_, fun h => absurd h (by decide)⟩; (conv => whnf); (try (refine ⟨(rfl : (_ : Heap) = _), ?_⟩; (conv => whnf)))) | (refine ⟨fun h => absurd h (by decide), fun _ => ?_⟩; (conv => whnf); (try (refine ⟨(rfl : (_ : Heap) = _), ?_⟩; (conv => whnf))))))
      refine ⟨by kernel_rfl, ?_⟩; (conv => whnf); (try (refine ⟨(rfl : (_ : Heap) = _), ?_⟩; (conv => whnf))); refine ⟨fun _ => ?_, fun h => absurd h (by simp)⟩; (conv => whnf); (try (refine ⟨(rfl : (_ : Heap) = _), ?_⟩; (conv => whnf)))
      refine ⟨fun _ => ?_, fun h => absurd h (by simp)⟩; (conv => whnf); (try (refine ⟨(rfl : (_ : Heap) = _), ?_⟩; (conv => whnf)))
      refine ⟨by kernel_rfl, ?_⟩; (conv => whnf); (try (refine ⟨(rfl : (_ : Heap) = _), ?_⟩; (conv => whnf))); refine ⟨fun _ => ?_, fun h => absurd h (by simp)⟩; (conv => whnf); (try (refine ⟨(rfl : (_ : Heap) = _), ?_⟩; (conv => whnf)))
      (repeat (first | (refine ⟨fun _ => ?_, fun h => absurd h (by decide)⟩; (conv => whnf); (try (refine ⟨(rfl : (_ : Heap) = _), ?_⟩; (conv => whnf)))) | (refine ⟨fun h => absurd h (by decide), fun _ => ?_⟩; (conv => whnf); (try (refine ⟨(rfl : (_ : Heap) = _), ?_⟩; (conv => whnf))))))
      refine ⟨_, _, (drain_sound l).frame rfl _, ?_⟩; (conv => whnf); (try (refine ⟨(rfl : (_ : Heap) = _), ?_⟩; (conv => whnf)))
      refine ⟨_, _, (rdrain_sound l).frame rfl _, ?_⟩; (conv => whnf); (try (refine ⟨(rfl : (_ : Heap) = _), ?_⟩; (conv => whnf)))
      refine ⟨by kernel_rfl, ?_⟩; (conv => whnf); (try (refine ⟨(rfl : (_ : Heap) = _), ?_⟩; (conv => whnf))); refine ⟨fun _ => ?_, fun h => absurd h (by simp)⟩; (conv => whnf); (try (refine ⟨(rfl : (_ : Heap) = _), ?_⟩; (conv => whnf)))
      refine ⟨_, _, (is_sound l hl).frame rfl _, ?_⟩; (conv => whnf); (try (refine ⟨(rfl : (_ : Heap) = _), ?_⟩; (conv => whnf)))
      refine ⟨fun h3 => ?_, fun h3 => ?_⟩
      all_goals
        (conv => whnf); (try (refine ⟨(rfl : (_ : Heap) = _), ?_⟩; (conv => whnf)))
        refine ⟨_, _, (ris_sound l hl).frame rfl _, ?_⟩; (conv => whnf); (try (refine ⟨(rfl : (_ : Heap) = _), ?_⟩; (conv => whnf)))
        first | (refine ⟨fun _ => ?_, fun h => absurd ((h3).symm.trans h : true = false) (by decide)⟩; (conv => whnf); (try (refine ⟨(rfl : (_ : Heap) = _), ?_⟩; (conv => whnf)))) | (refine ⟨fun h => absurd ((h3).symm.trans h : false = true) (by decide), fun _ => ?_⟩; (conv => whnf); (try (refine ⟨(rfl : (_ : Heap) = _), ?_⟩; (conv => whnf))))
        (repeat (first | (refine ⟨fun _ => ?_, fun h => absurd h (by decide)⟩; (conv => whnf); (try (refine ⟨(rfl : (_ : Heap) = _), ?_⟩; (conv => whnf)))) | (refine ⟨fun h => absurd h (by decide), fun _ => ?_⟩; (conv => whnf); (try (refine ⟨(rfl : (_ : Heap) = _), ?_⟩; (conv => whnf))))))
        refine ⟨_, _, (place_sound all s hall).frame rfl _, ?_⟩; (conv => whnf); (try (refine ⟨(rfl : (_ : Heap) = _), ?_⟩; (conv => whnf)))
        refine ⟨_, _, (rplace_sound all s hall).frame rfl _, ?_⟩; (conv => whnf); (try (refine ⟨(rfl : (_ : Heap) = _), ?_⟩; (conv => whnf)))
        refine ⟨fun _ => ?_, fun h => absurd h (by simp)⟩; (conv => whnf); (try (refine ⟨(rfl : (_ : Heap) = _), ?_⟩; (conv => whnf)))
        exact ⟨.inl rfl, _, .refl _, rfl⟩

end Go.Gat
