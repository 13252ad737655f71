/- Layer 16 (limbo): the statements' example, walked. -/
import Derived.Test.YtblcehhggncmaaaLimK
namespace Go.Lim
open Go.Ab Go.Proofs Go.Hy
set_option linter.unusedVariables false
set_option maxRecDepth 8000

theorem addC {l : List Ret} {v a : Int} {r : List Ret × Int} (h : addV l v a = r) (hl : l.length < 5864062014700) : SoundAt Try.prog 24 [] [lR l, I v, I a] (two r) [] := h ▸ add_sound hl
theorem markC {l : List Ret} {i : Int} {r : List Ret × Int} (h : markV l i = r) (hi : i64 i) (hl : l.length < 5864062014700) : SoundAt Try.prog 26 [] [lR l, I i] (two r) [] := h ▸ mark_sound hi hl
theorem dueC {l : List Ret} {now : Int} {r : List Int} (h : (dueV l now).map (fun n : Nat => (n : Int)) = r) (hl : l.length < 5864062014700) (hw : wfR l) : SoundAt Try.prog 31 [] [lR l, I now] (lI r) [] := by
  have := due_sound (now := now) hl hw
  have e : (dueV l now).map encN = r.map encI := by rw [← h, List.map_map]; rfl
  rw [e] at this
  exact this
theorem rdueC {l : List Ret} {now : Int} {r : List Int} (h : (dueV l now).map (fun n : Nat => (n : Int)) = r) (hl : l.length < 5864062014700) (hw : wfR l) : SoundAt Try.prog 32 [] [lR l, I now] (lI r) [] := by
  have := rdue_sound (now := now) hl hw
  have e : (dueV l now).map encN = r.map encI := by rw [← h, List.map_map]; rfl
  rw [e] at this
  exact this
theorem dueV_le (l : List Ret) (now : Int) : (dueV l now).length ≤ l.length := by
  have := List.length_filter_le (dueQ l now) (List.range l.length)
  simpa [dueV] using this
theorem isC {l : List Ret} {b : Bool} (h : isV l = b) (hl : l.length < 4611686018427387904) : SoundAt Try.prog 33 [] [lR l] (Bo b) [] := h ▸ is_sound hl

theorem wfR_of {l : List Ret} (h : l.all (fun r => decide (-9223372036854775808 ≤ r.at_) && decide (r.at_ ≤ 9223372036854775807)) = true) : wfR l := fun i r hr => by
  have := List.all_eq_true.1 h r (List.mem_of_getElem? hr)
  simpa using this

theorem gone_sound : SoundAt Try.prog 28 [] [] (Bo true) [] := by
  refine SoundAt.of_wpA0 (fn := Try.f28) Try.func28 rfl ?_ rfl
  conv => whnf
  refine ⟨_, _, ((addC (l := []) (r := ([⟨0, 3, false⟩], 0)) rfl (by decide)).pre (.cons (WC.nil 0 3) (.refl _))).frame rfl _, ?_⟩; (conv => whnf); (try (refine ⟨(rfl : (_ : Heap) = _), ?_⟩; (conv => whnf)))
  refine ⟨_, _, (addC (l := [⟨0, 3, false⟩]) (r := ([⟨0, 3, false⟩, ⟨4, 5, false⟩], 0)) rfl (by decide)).frame rfl _, ?_⟩; (conv => whnf); (try (refine ⟨(rfl : (_ : Heap) = _), ?_⟩; (conv => whnf)))
  refine ⟨_, _, (addC (l := [⟨0, 3, false⟩, ⟨4, 5, false⟩]) (r := ([], 4)) rfl (by decide)).frame rfl _, ?_⟩; (conv => whnf); (try (refine ⟨(rfl : (_ : Heap) = _), ?_⟩; (conv => whnf)))
  refine ⟨_, _, (addC (l := [⟨0, 3, false⟩, ⟨4, 5, false⟩]) (r := ([], 1)) rfl (by decide)).frame rfl _, ?_⟩; (conv => whnf); (try (refine ⟨(rfl : (_ : Heap) = _), ?_⟩; (conv => whnf)))
  refine ⟨_, _, (markC (l := [⟨0, 3, false⟩, ⟨4, 5, false⟩]) (r := ([⟨0, 3, true⟩, ⟨4, 5, false⟩], 0)) rfl (by decide) (by decide)).frame rfl _, ?_⟩; (conv => whnf); (try (refine ⟨(rfl : (_ : Heap) = _), ?_⟩; (conv => whnf)))
  refine ⟨_, _, (markC (l := [⟨0, 3, true⟩, ⟨4, 5, false⟩]) (r := ([], 5)) rfl (by decide) (by decide)).frame rfl _, ?_⟩; (conv => whnf); (try (refine ⟨(rfl : (_ : Heap) = _), ?_⟩; (conv => whnf)))
  refine ⟨_, _, ((markC (l := [⟨0, 0, false⟩, ⟨0, 0, false⟩]) (r := ([], 1)) rfl (by decide) (by decide)).pre (.cons (WC.share 1 3 _) (.refl _))).frame rfl _, ?_⟩; (conv => whnf); (try (refine ⟨(rfl : (_ : Heap) = _), ?_⟩; (conv => whnf)))
  (repeat (first | (refine ⟨fun _ => ?_, fun h => absurd h (by decide)⟩; (conv => whnf); (try (refine ⟨(rfl : (_ : Heap) = _), ?_⟩; (conv => whnf)))) | (refine ⟨fun h => absurd h (by decide), fun _ => ?_⟩; (conv => whnf); (try (refine ⟨(rfl : (_ : Heap) = _), ?_⟩; (conv => whnf))))))
  refine ⟨by decide, encR ⟨4, 5, false⟩, rfl, ?_⟩
  conv => whnf
  refine ⟨by kernel_rfl, ?_⟩
  conv => whnf
  (repeat (first | (refine ⟨fun _ => ?_, fun h => absurd h (by decide)⟩; (conv => whnf); (try (refine ⟨(rfl : (_ : Heap) = _), ?_⟩; (conv => whnf)))) | (refine ⟨fun h => absurd h (by decide), fun _ => ?_⟩; (conv => whnf); (try (refine ⟨(rfl : (_ : Heap) = _), ?_⟩; (conv => whnf))))))
  refine ⟨_, _, (dueC (l := [⟨0, 3, false⟩, ⟨4, 5, false⟩]) (r := [0]) rfl (by decide) (wfR_of rfl)).frame rfl _, ?_⟩; (conv => whnf); (try (refine ⟨(rfl : (_ : Heap) = _), ?_⟩; (conv => whnf)))
  refine ⟨_, _, ((same2_sound (a := [0]) (b := [0]) (by decide)).pre (.cons (.refl _) (.cons (WC.share 1 1 _) .nil))).frame rfl _, ?_⟩; (conv => whnf); (try (refine ⟨(rfl : (_ : Heap) = _), ?_⟩; (conv => whnf)))
  (repeat (first | (refine ⟨fun _ => ?_, fun h => absurd h (by decide)⟩; (conv => whnf); (try (refine ⟨(rfl : (_ : Heap) = _), ?_⟩; (conv => whnf)))) | (refine ⟨fun h => absurd h (by decide), fun _ => ?_⟩; (conv => whnf); (try (refine ⟨(rfl : (_ : Heap) = _), ?_⟩; (conv => whnf))))))
  refine ⟨_, _, (dueC (l := [⟨0, 3, true⟩, ⟨4, 5, false⟩]) (r := [1]) rfl (by decide) (wfR_of rfl)).frame rfl _, ?_⟩; (conv => whnf); (try (refine ⟨(rfl : (_ : Heap) = _), ?_⟩; (conv => whnf)))
  refine ⟨_, _, ((same2_sound (a := [1]) (b := [1]) (by decide)).pre (.cons (.refl _) (.cons (WC.share 1 1 _) .nil))).frame rfl _, ?_⟩; (conv => whnf); (try (refine ⟨(rfl : (_ : Heap) = _), ?_⟩; (conv => whnf)))
  (repeat (first | (refine ⟨fun _ => ?_, fun h => absurd h (by decide)⟩; (conv => whnf); (try (refine ⟨(rfl : (_ : Heap) = _), ?_⟩; (conv => whnf)))) | (refine ⟨fun h => absurd h (by decide), fun _ => ?_⟩; (conv => whnf); (try (refine ⟨(rfl : (_ : Heap) = _), ?_⟩; (conv => whnf))))))
  refine ⟨_, _, (isC (l := [⟨0, 3, false⟩, ⟨4, 5, false⟩]) (b := true) rfl (by decide)).frame rfl _, ?_⟩; (conv => whnf); (try (refine ⟨(rfl : (_ : Heap) = _), ?_⟩; (conv => whnf)))
  (repeat (first | (refine ⟨fun _ => ?_, fun h => absurd h (by decide)⟩; (conv => whnf); (try (refine ⟨(rfl : (_ : Heap) = _), ?_⟩; (conv => whnf)))) | (refine ⟨fun h => absurd h (by decide), fun _ => ?_⟩; (conv => whnf); (try (refine ⟨(rfl : (_ : Heap) = _), ?_⟩; (conv => whnf))))))
  refine ⟨_, _, ((isC (l := [⟨0, -1, false⟩]) (b := false) rfl (by decide)).pre (.cons (WC.share 1 3 _) .nil)).frame rfl _, ?_⟩; (conv => whnf); (try (refine ⟨(rfl : (_ : Heap) = _), ?_⟩; (conv => whnf)))
  (repeat (first | (refine ⟨fun _ => ?_, fun h => absurd h (by decide)⟩; (conv => whnf); (try (refine ⟨(rfl : (_ : Heap) = _), ?_⟩; (conv => whnf)))) | (refine ⟨fun h => absurd h (by decide), fun _ => ?_⟩; (conv => whnf); (try (refine ⟨(rfl : (_ : Heap) = _), ?_⟩; (conv => whnf))))))
  exact ⟨.inl rfl, _, .refl _, rfl⟩

end Go.Lim
