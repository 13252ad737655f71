/- Layer 17 (gates): the statement GatesGo, walked. -/
import Derived.Test.YtblcehhggncmaaaGatE
namespace Go.Gat
open Go.Ab Go.Proofs Go.Hy
set_option linter.unusedVariables false
set_option maxRecDepth 8000

theorem enter_up {n : Str} {c : Bool} {a : Int} (h : a < 9223372036854775807) : enterV ⟨n, false, a, c⟩ = (⟨n, false, a + 1, c⟩, true) := by unfold enterV openV; rw [if_pos (by simp; omega)]
theorem enter_no {n : Str} {c : Bool} {a : Int} : enterV ⟨n, true, a, c⟩ = (⟨n, true, a, c⟩, false) := by unfold enterV openV; rw [if_neg (by simp)]
theorem isV_at {n : Str} {d c : Bool} {a : Int} (h : nameV n = true) (ha : 0 ≤ a) (hd : (d || !c) = true) : isV ⟨n, d, a, c⟩ = true := by
  simp only [isV, h, hd]; simp [ha]

theorem close_no {n : Str} {c : Bool} {a : Int} : closeV ⟨n, false, a, c⟩ = (⟨n, false, a, c⟩, false) := by simp [closeV, endsV]
set_option maxHeartbeats 4000000 in
theorem go_sound (n0 : Str) (d0 c0 : Bool) (a0 : Int) (l : List Int) (hl : Lis.ok ⟨n0, d0, a0, c0⟩) (hlen : l.length < 4611686018427387904) : SoundAt Try.prog 13 [] [L4 n0 d0 a0 c0, lI l] (Bo true) [] := by
  have ha := hl.2
  have hN := hl.1
  refine SoundAt.of_wpA1 (fn := Try.f13) Try.func13 rfl ?_
  conv => whnf
  refine ⟨fun h0 => ?_, fun h0 => ?_⟩
  · conv => whnf
    (repeat (first | (refine ⟨fun _ => ?_, fun h => absurd h (by decide)⟩; (conv => whnf); (try (refine ⟨(rfl : (_ : Heap) = _), ?_⟩; (conv => whnf)))) | (refine ⟨fun h => absurd h (by decide), fun _ => ?_⟩; (conv => whnf); (try (refine ⟨(rfl : (_ : Heap) = _), ?_⟩; (conv => whnf))))))
    refine ⟨_, _, (gone_sound).frame rfl _, ?_⟩; (conv => whnf); (try (refine ⟨(rfl : (_ : Heap) = _), ?_⟩; (conv => whnf)))
    (repeat (first | (refine ⟨fun _ => ?_, fun h => absurd h (by decide)⟩; (conv => whnf); (try (refine ⟨(rfl : (_ : Heap) = _), ?_⟩; (conv => whnf)))) | (refine ⟨fun h => absurd h (by decide), fun _ => ?_⟩; (conv => whnf); (try (refine ⟨(rfl : (_ : Heap) = _), ?_⟩; (conv => whnf))))))
    exact ⟨.inl rfl, _, .refl _, rfl⟩
  conv => whnf
  refine ⟨fun h00 => ?_, fun h00 => ?_⟩
  · conv => whnf
    (repeat (first | (refine ⟨fun _ => ?_, fun h => absurd h (by decide)⟩; (conv => whnf); (try (refine ⟨(rfl : (_ : Heap) = _), ?_⟩; (conv => whnf)))) | (refine ⟨fun h => absurd h (by decide), fun _ => ?_⟩; (conv => whnf); (try (refine ⟨(rfl : (_ : Heap) = _), ?_⟩; (conv => whnf))))))
    refine ⟨_, _, (gone_sound).frame rfl _, ?_⟩; (conv => whnf); (try (refine ⟨(rfl : (_ : Heap) = _), ?_⟩; (conv => whnf)))
    (repeat (first | (refine ⟨fun _ => ?_, fun h => absurd h (by decide)⟩; (conv => whnf); (try (refine ⟨(rfl : (_ : Heap) = _), ?_⟩; (conv => whnf)))) | (refine ⟨fun h => absurd h (by decide), fun _ => ?_⟩; (conv => whnf); (try (refine ⟨(rfl : (_ : Heap) = _), ?_⟩; (conv => whnf))))))
    exact ⟨.inl rfl, _, .refl _, rfl⟩
  conv => whnf
  have hs : n0.length ≤ 100 := by simp at h0; omega
  have hs2 : l.length ≤ 500 := by simp at h00; omega
  refine ⟨_, _, (is_sound ⟨n0, d0, a0, c0⟩ hl).frame rfl _, ?_⟩; (conv => whnf); (try (refine ⟨(rfl : (_ : Heap) = _), ?_⟩; (conv => whnf)))
  refine ⟨fun h1 => ?_, fun h1 => ?_⟩
  rotate_left 1
  · (conv => whnf); (try (refine ⟨(rfl : (_ : Heap) = _), ?_⟩; (conv => whnf)))
    (repeat (first | (refine ⟨fun _ => ?_, fun h => absurd h (by decide)⟩; (conv => whnf); (try (refine ⟨(rfl : (_ : Heap) = _), ?_⟩; (conv => whnf)))) | (refine ⟨fun h => absurd h (by decide), fun _ => ?_⟩; (conv => whnf); (try (refine ⟨(rfl : (_ : Heap) = _), ?_⟩; (conv => whnf))))))
    refine ⟨_, _, (gone_sound).frame rfl _, ?_⟩; (conv => whnf); (try (refine ⟨(rfl : (_ : Heap) = _), ?_⟩; (conv => whnf)))
    (repeat (first | (refine ⟨fun _ => ?_, fun h => absurd h (by decide)⟩; (conv => whnf); (try (refine ⟨(rfl : (_ : Heap) = _), ?_⟩; (conv => whnf)))) | (refine ⟨fun h => absurd h (by decide), fun _ => ?_⟩; (conv => whnf); (try (refine ⟨(rfl : (_ : Heap) = _), ?_⟩; (conv => whnf))))))
    exact ⟨.inl rfl, _, .refl _, rfl⟩
  (conv => whnf); (try (refine ⟨(rfl : (_ : Heap) = _), ?_⟩; (conv => whnf)))
  refine ⟨fun h2 => ?_, fun h2 => ?_⟩
  · (conv => whnf); (try (refine ⟨(rfl : (_ : Heap) = _), ?_⟩; (conv => whnf)))
    refine ⟨_, _, (gone_sound).frame rfl _, ?_⟩; (conv => whnf); (try (refine ⟨(rfl : (_ : Heap) = _), ?_⟩; (conv => whnf)))
    (repeat (first | (refine ⟨fun _ => ?_, fun h => absurd h (by decide)⟩; (conv => whnf); (try (refine ⟨(rfl : (_ : Heap) = _), ?_⟩; (conv => whnf)))) | (refine ⟨fun h => absurd h (by decide), fun _ => ?_⟩; (conv => whnf); (try (refine ⟨(rfl : (_ : Heap) = _), ?_⟩; (conv => whnf))))))
    exact ⟨.inl rfl, _, .refl _, rfl⟩
  (conv => whnf); (try (refine ⟨(rfl : (_ : Heap) = _), ?_⟩; (conv => whnf)))
  have h2' : a0 ≤ 1000 := by simpa using h2
  have hn : nameV n0 = true := by simp [isV] at h1; exact h1.1.1
  have h3 : 0 ≤ a0 := by simp [isV] at h1; omega
  have h4 : (d0 || !c0) = true := by simp [isV] at h1; simp; exact h1.2
  cases d0
  all_goals
    (repeat (first | (refine ⟨fun _ => ?_, fun h => ?_⟩; rotate_left 1; (focus (exfalso; first | (revert h; decide) | (simp at h <;> omega) | omega)); ((conv => whnf); (try (refine ⟨(rfl : (_ : Heap) = _), ?_⟩; (conv => whnf))))) | (refine ⟨fun h => ?_, fun _ => ?_⟩; (focus (exfalso; first | (revert h; decide) | (simp at h <;> omega) | omega)); ((conv => whnf); (try (refine ⟨(rfl : (_ : Heap) = _), ?_⟩; (conv => whnf))))) | (refine ⟨by kernel_rfl, ?_⟩; ((conv => whnf); (try (refine ⟨(rfl : (_ : Heap) = _), ?_⟩; (conv => whnf)))))))
    refine Loops.inv (fun m t1 H1 => ∃ (k : Nat) (d c : Bool) (a : Int), k + m = l.length ∧ (d || !c) = true ∧ 0 ≤ a ∧ a ≤ 1000 + k ∧ t1 = [.junk, lI l, .ref 0 [] 4 0 0, .junk, Bo false, Bo d, I k, .junk, .junk, .junk, .junk, .junk, .junk, .junk, .junk, .junk, .junk, .junk, .junk, .junk, .junk, .junk, .junk, .junk, .junk, .junk, .junk, .junk, .junk, .junk, .junk, .junk, .junk, .junk, .junk, .junk, .junk, .junk, .junk, .junk, .junk, .junk, .junk, .junk, .junk, .junk, .junk, .junk, .junk, .junk, .junk, .junk, .junk, .junk, .junk, .junk, .junk, .junk, .junk, .junk, .junk, .junk, .junk, .junk, .junk, .junk, .junk, .junk, .junk, .junk, .junk, .junk, .junk, .junk, .junk, .junk, .junk, .junk, .junk, .junk, .junk, .junk, .junk, .junk, .junk, .junk, .junk, .junk, .junk, .junk, .junk, .junk, .junk, .junk, .junk, .junk, .junk, .junk, .junk, .junk, .junk, .junk, .junk, .junk, .junk, .junk, .junk, .junk, .junk, .junk, .junk, .junk, .junk, .junk, .junk, .junk, .junk, .junk, .junk, .junk, .junk, .junk, .junk, .junk, .junk, .junk, .junk, .junk, .junk, .junk, .junk, .junk, .junk, .junk, .junk, .junk, .junk, .junk, .junk, .junk, .junk, .junk, .junk, .junk, .junk, .junk, .junk, .junk, .junk, .junk, .junk, .junk, .junk, .junk, .junk] ∧ H1 = [⟨1, 46, 4, [[Tx n0, Bo d, I a, Bo c]], 0⟩]) l.length ?_ ?_
    · exact ⟨_, _, Weak.covD 1 (by (conv => whnf); (repeat (refine ⟨rfl, ?_⟩; (conv => whnf))); exact trivial) rfl rfl rfl rfl rfl, 0, _, _, _, by simp, h4, h3, by simpa using h2', rfl, rfl⟩
    rintro m _ _ ⟨k, d, c, a, hk, hdc, hp, hle, rfl, rfl⟩
    conv => whnf
    refine ⟨fun hlt => ?_, fun hlt => ?_⟩
    · have hlt' : k < l.length := by simpa using hlt
      cases d <;> cases c
      rotate_left 1
      · exact absurd hdc (by decide)
      all_goals
        conv => whnf
        refine ⟨by omega, encI l[k], by simp [hlt'], ?_⟩
        conv => whnf
        refine ⟨fun hx0 => ?_, fun hx0 => ?_⟩
        · conv => whnf
          first | (refine ⟨_, _, (enterC (enter_up (by omega)) (okD hl ⟨by omega, by omega⟩)).frame rfl _, ?_⟩; (conv => whnf); (try (refine ⟨(rfl : (_ : Heap) = _), ?_⟩; (conv => whnf)))) | (refine ⟨_, _, (enterC enter_no (okD hl ⟨by omega, by omega⟩)).frame rfl _, ?_⟩; (conv => whnf); (try (refine ⟨(rfl : (_ : Heap) = _), ?_⟩; (conv => whnf))))
          (repeat (first | (refine ⟨fun _ => ?_, fun h => ?_⟩; rotate_left 1; (focus (exfalso; first | (revert h; decide) | (simp at h <;> omega) | omega)); ((conv => whnf); (try (refine ⟨(rfl : (_ : Heap) = _), ?_⟩; (conv => whnf))))) | (refine ⟨fun h => ?_, fun _ => ?_⟩; (focus (exfalso; first | (revert h; decide) | (simp at h <;> omega) | omega)); ((conv => whnf); (try (refine ⟨(rfl : (_ : Heap) = _), ?_⟩; (conv => whnf))))) | (refine ⟨by kernel_rfl, ?_⟩; ((conv => whnf); (try (refine ⟨(rfl : (_ : Heap) = _), ?_⟩; (conv => whnf)))))))
          (refine ⟨_, _, (isC (isV_at hn (by omega) rfl) (okD hl ⟨by omega, by omega⟩)).frame rfl _, ?_⟩; (conv => whnf); (try (refine ⟨(rfl : (_ : Heap) = _), ?_⟩; (conv => whnf))); (repeat (first | (refine ⟨fun _ => ?_, fun h => ?_⟩; rotate_left 1; (focus (exfalso; first | (revert h; decide) | (simp at h <;> omega) | omega)); ((conv => whnf); (try (refine ⟨(rfl : (_ : Heap) = _), ?_⟩; (conv => whnf))))) | (refine ⟨fun h => ?_, fun _ => ?_⟩; (focus (exfalso; first | (revert h; decide) | (simp at h <;> omega) | omega)); ((conv => whnf); (try (refine ⟨(rfl : (_ : Heap) = _), ?_⟩; (conv => whnf))))) | (refine ⟨by kernel_rfl, ?_⟩; ((conv => whnf); (try (refine ⟨(rfl : (_ : Heap) = _), ?_⟩; (conv => whnf))))))); rw [i64_nat (by omega)])
          first | ((refine .inl ⟨rfl, m - 1, _, _, by omega, Weak.covD 1 (by (conv => whnf); (repeat (refine ⟨rfl, ?_⟩; (conv => whnf))); exact trivial) rfl rfl rfl rfl rfl, k + 1, false, false, (a+1), by omega, rfl, by omega, by omega, rfl, rfl⟩)) | ((refine .inl ⟨rfl, m - 1, _, _, by omega, Weak.covD 1 (by (conv => whnf); (repeat (refine ⟨rfl, ?_⟩; (conv => whnf))); exact trivial) rfl rfl rfl rfl rfl, k + 1, true, false, a, by omega, rfl, by omega, by omega, rfl, rfl⟩)) | ((refine .inl ⟨rfl, m - 1, _, _, by omega, Weak.covD 1 (by (conv => whnf); (repeat (refine ⟨rfl, ?_⟩; (conv => whnf))); exact trivial) rfl rfl rfl rfl rfl, k + 1, true, true, a, by omega, rfl, by omega, by omega, rfl, rfl⟩))
        (conv => whnf); (try (refine ⟨(rfl : (_ : Heap) = _), ?_⟩; (conv => whnf)))
        refine ⟨fun hx1 => ?_, fun hx1 => ?_⟩
        · conv => whnf
          by_cases h1a : 1 ≤ a
          · refine ⟨_, _, (leaveC (leave_at h1a) (okD hl ⟨by omega, by omega⟩)).frame rfl _, ?_⟩; (conv => whnf); (try (refine ⟨(rfl : (_ : Heap) = _), ?_⟩; (conv => whnf)))
            (repeat (first | (refine ⟨fun _ => ?_, fun h => ?_⟩; rotate_left 1; (focus (exfalso; first | (revert h; decide) | (simp at h <;> omega) | omega)); ((conv => whnf); (try (refine ⟨(rfl : (_ : Heap) = _), ?_⟩; (conv => whnf))))) | (refine ⟨fun h => ?_, fun _ => ?_⟩; (focus (exfalso; first | (revert h; decide) | (simp at h <;> omega) | omega)); ((conv => whnf); (try (refine ⟨(rfl : (_ : Heap) = _), ?_⟩; (conv => whnf))))) | (refine ⟨by kernel_rfl, ?_⟩; ((conv => whnf); (try (refine ⟨(rfl : (_ : Heap) = _), ?_⟩; (conv => whnf)))))))
            (refine ⟨_, _, (isC (isV_at hn (by omega) rfl) (okD hl ⟨by omega, by omega⟩)).frame rfl _, ?_⟩; (conv => whnf); (try (refine ⟨(rfl : (_ : Heap) = _), ?_⟩; (conv => whnf))); (repeat (first | (refine ⟨fun _ => ?_, fun h => ?_⟩; rotate_left 1; (focus (exfalso; first | (revert h; decide) | (simp at h <;> omega) | omega)); ((conv => whnf); (try (refine ⟨(rfl : (_ : Heap) = _), ?_⟩; (conv => whnf))))) | (refine ⟨fun h => ?_, fun _ => ?_⟩; (focus (exfalso; first | (revert h; decide) | (simp at h <;> omega) | omega)); ((conv => whnf); (try (refine ⟨(rfl : (_ : Heap) = _), ?_⟩; (conv => whnf))))) | (refine ⟨by kernel_rfl, ?_⟩; ((conv => whnf); (try (refine ⟨(rfl : (_ : Heap) = _), ?_⟩; (conv => whnf))))))); rw [i64_nat (by omega)])
            first | ((refine .inl ⟨rfl, m - 1, _, _, by omega, Weak.covD 1 (by (conv => whnf); (repeat (refine ⟨rfl, ?_⟩; (conv => whnf))); exact trivial) rfl rfl rfl rfl rfl, k + 1, false, false, (a-1), by omega, rfl, by omega, by omega, rfl, rfl⟩)) | ((refine .inl ⟨rfl, m - 1, _, _, by omega, Weak.covD 1 (by (conv => whnf); (repeat (refine ⟨rfl, ?_⟩; (conv => whnf))); exact trivial) rfl rfl rfl rfl rfl, k + 1, true, false, (a-1), by omega, rfl, by omega, by omega, rfl, rfl⟩)) | ((refine .inl ⟨rfl, m - 1, _, _, by omega, Weak.covD 1 (by (conv => whnf); (repeat (refine ⟨rfl, ?_⟩; (conv => whnf))); exact trivial) rfl rfl rfl rfl rfl, k + 1, true, true, (a-1), by omega, rfl, by omega, by omega, rfl, rfl⟩))
          · obtain rfl : a = 0 := by omega
            refine ⟨_, _, (leaveC (n2 := []) (d2 := false) (a2 := 0) (c2 := false) (b := 5) rfl (okD hl ⟨by omega, by omega⟩)).frame rfl _, ?_⟩; (conv => whnf); (try (refine ⟨(rfl : (_ : Heap) = _), ?_⟩; (conv => whnf)))
            (repeat (first | (refine ⟨fun _ => ?_, fun h => ?_⟩; rotate_left 1; (focus (exfalso; first | (revert h; decide) | (simp at h <;> omega) | omega)); ((conv => whnf); (try (refine ⟨(rfl : (_ : Heap) = _), ?_⟩; (conv => whnf))))) | (refine ⟨fun h => ?_, fun _ => ?_⟩; (focus (exfalso; first | (revert h; decide) | (simp at h <;> omega) | omega)); ((conv => whnf); (try (refine ⟨(rfl : (_ : Heap) = _), ?_⟩; (conv => whnf))))) | (refine ⟨by kernel_rfl, ?_⟩; ((conv => whnf); (try (refine ⟨(rfl : (_ : Heap) = _), ?_⟩; (conv => whnf)))))))
            (refine ⟨_, _, (isC (isV_at hn (by omega) rfl) (okD hl ⟨by omega, by omega⟩)).frame rfl _, ?_⟩; (conv => whnf); (try (refine ⟨(rfl : (_ : Heap) = _), ?_⟩; (conv => whnf))); (repeat (first | (refine ⟨fun _ => ?_, fun h => ?_⟩; rotate_left 1; (focus (exfalso; first | (revert h; decide) | (simp at h <;> omega) | omega)); ((conv => whnf); (try (refine ⟨(rfl : (_ : Heap) = _), ?_⟩; (conv => whnf))))) | (refine ⟨fun h => ?_, fun _ => ?_⟩; (focus (exfalso; first | (revert h; decide) | (simp at h <;> omega) | omega)); ((conv => whnf); (try (refine ⟨(rfl : (_ : Heap) = _), ?_⟩; (conv => whnf))))) | (refine ⟨by kernel_rfl, ?_⟩; ((conv => whnf); (try (refine ⟨(rfl : (_ : Heap) = _), ?_⟩; (conv => whnf))))))); rw [i64_nat (by omega)])
            first | ((refine .inl ⟨rfl, m - 1, _, _, by omega, Weak.covD 1 (by (conv => whnf); (repeat (refine ⟨rfl, ?_⟩; (conv => whnf))); exact trivial) rfl rfl rfl rfl rfl, k + 1, false, false, 0, by omega, rfl, by omega, by omega, rfl, rfl⟩)) | ((refine .inl ⟨rfl, m - 1, _, _, by omega, Weak.covD 1 (by (conv => whnf); (repeat (refine ⟨rfl, ?_⟩; (conv => whnf))); exact trivial) rfl rfl rfl rfl rfl, k + 1, true, false, 0, by omega, rfl, by omega, by omega, rfl, rfl⟩)) | ((refine .inl ⟨rfl, m - 1, _, _, by omega, Weak.covD 1 (by (conv => whnf); (repeat (refine ⟨rfl, ?_⟩; (conv => whnf))); exact trivial) rfl rfl rfl rfl rfl, k + 1, true, true, 0, by omega, rfl, by omega, by omega, rfl, rfl⟩))
        (conv => whnf); (try (refine ⟨(rfl : (_ : Heap) = _), ?_⟩; (conv => whnf)))
        refine ⟨fun hx2 => ?_, fun hx2 => ?_⟩
        · conv => whnf
          refine ⟨_, _, (drainC).frame rfl _, ?_⟩; (conv => whnf); (try (refine ⟨(rfl : (_ : Heap) = _), ?_⟩; (conv => whnf)))
          (repeat (first | (refine ⟨fun _ => ?_, fun h => ?_⟩; rotate_left 1; (focus (exfalso; first | (revert h; decide) | (simp at h <;> omega) | omega)); ((conv => whnf); (try (refine ⟨(rfl : (_ : Heap) = _), ?_⟩; (conv => whnf))))) | (refine ⟨fun h => ?_, fun _ => ?_⟩; (focus (exfalso; first | (revert h; decide) | (simp at h <;> omega) | omega)); ((conv => whnf); (try (refine ⟨(rfl : (_ : Heap) = _), ?_⟩; (conv => whnf))))) | (refine ⟨by kernel_rfl, ?_⟩; ((conv => whnf); (try (refine ⟨(rfl : (_ : Heap) = _), ?_⟩; (conv => whnf)))))))
          (refine ⟨_, _, (isC (isV_at hn (by omega) rfl) (okD hl ⟨by omega, by omega⟩)).frame rfl _, ?_⟩; (conv => whnf); (try (refine ⟨(rfl : (_ : Heap) = _), ?_⟩; (conv => whnf))); (repeat (first | (refine ⟨fun _ => ?_, fun h => ?_⟩; rotate_left 1; (focus (exfalso; first | (revert h; decide) | (simp at h <;> omega) | omega)); ((conv => whnf); (try (refine ⟨(rfl : (_ : Heap) = _), ?_⟩; (conv => whnf))))) | (refine ⟨fun h => ?_, fun _ => ?_⟩; (focus (exfalso; first | (revert h; decide) | (simp at h <;> omega) | omega)); ((conv => whnf); (try (refine ⟨(rfl : (_ : Heap) = _), ?_⟩; (conv => whnf))))) | (refine ⟨by kernel_rfl, ?_⟩; ((conv => whnf); (try (refine ⟨(rfl : (_ : Heap) = _), ?_⟩; (conv => whnf))))))); rw [i64_nat (by omega)])
          first | ((refine .inl ⟨rfl, m - 1, _, _, by omega, Weak.covD 1 (by (conv => whnf); (repeat (refine ⟨rfl, ?_⟩; (conv => whnf))); exact trivial) rfl rfl rfl rfl rfl, k + 1, true, false, a, by omega, rfl, by omega, by omega, rfl, rfl⟩)) | ((refine .inl ⟨rfl, m - 1, _, _, by omega, Weak.covD 1 (by (conv => whnf); (repeat (refine ⟨rfl, ?_⟩; (conv => whnf))); exact trivial) rfl rfl rfl rfl rfl, k + 1, true, true, a, by omega, rfl, by omega, by omega, rfl, rfl⟩))
        · (conv => whnf); (try (refine ⟨(rfl : (_ : Heap) = _), ?_⟩; (conv => whnf)))
          by_cases h1a : a = 0
          · subst h1a
            first | (refine ⟨_, _, (closeC close_no).frame rfl _, ?_⟩; (conv => whnf); (try (refine ⟨(rfl : (_ : Heap) = _), ?_⟩; (conv => whnf)))) | (refine ⟨_, _, (closeC ends_now).frame rfl _, ?_⟩; (conv => whnf); (try (refine ⟨(rfl : (_ : Heap) = _), ?_⟩; (conv => whnf))))
            (repeat (first | (refine ⟨fun _ => ?_, fun h => ?_⟩; rotate_left 1; (focus (exfalso; first | (revert h; decide) | (simp at h <;> omega) | omega)); ((conv => whnf); (try (refine ⟨(rfl : (_ : Heap) = _), ?_⟩; (conv => whnf))))) | (refine ⟨fun h => ?_, fun _ => ?_⟩; (focus (exfalso; first | (revert h; decide) | (simp at h <;> omega) | omega)); ((conv => whnf); (try (refine ⟨(rfl : (_ : Heap) = _), ?_⟩; (conv => whnf))))) | (refine ⟨by kernel_rfl, ?_⟩; ((conv => whnf); (try (refine ⟨(rfl : (_ : Heap) = _), ?_⟩; (conv => whnf)))))))
            (refine ⟨_, _, (isC (isV_at hn (by omega) rfl) (okD hl ⟨by omega, by omega⟩)).frame rfl _, ?_⟩; (conv => whnf); (try (refine ⟨(rfl : (_ : Heap) = _), ?_⟩; (conv => whnf))); (repeat (first | (refine ⟨fun _ => ?_, fun h => ?_⟩; rotate_left 1; (focus (exfalso; first | (revert h; decide) | (simp at h <;> omega) | omega)); ((conv => whnf); (try (refine ⟨(rfl : (_ : Heap) = _), ?_⟩; (conv => whnf))))) | (refine ⟨fun h => ?_, fun _ => ?_⟩; (focus (exfalso; first | (revert h; decide) | (simp at h <;> omega) | omega)); ((conv => whnf); (try (refine ⟨(rfl : (_ : Heap) = _), ?_⟩; (conv => whnf))))) | (refine ⟨by kernel_rfl, ?_⟩; ((conv => whnf); (try (refine ⟨(rfl : (_ : Heap) = _), ?_⟩; (conv => whnf))))))); rw [i64_nat (by omega)])
            first | ((refine .inl ⟨rfl, m - 1, _, _, by omega, Weak.covD 1 (by (conv => whnf); (repeat (refine ⟨rfl, ?_⟩; (conv => whnf))); exact trivial) rfl rfl rfl rfl rfl, k + 1, false, false, 0, by omega, rfl, by omega, by omega, rfl, rfl⟩)) | ((refine .inl ⟨rfl, m - 1, _, _, by omega, Weak.covD 1 (by (conv => whnf); (repeat (refine ⟨rfl, ?_⟩; (conv => whnf))); exact trivial) rfl rfl rfl rfl rfl, k + 1, true, true, 0, by omega, rfl, by omega, by omega, rfl, rfl⟩))
          · refine ⟨_, _, (closeC (ends_at h1a)).frame rfl _, ?_⟩; (conv => whnf); (try (refine ⟨(rfl : (_ : Heap) = _), ?_⟩; (conv => whnf)))
            (repeat (first | (refine ⟨fun _ => ?_, fun h => ?_⟩; rotate_left 1; (focus (exfalso; first | (revert h; decide) | (simp at h <;> omega) | omega)); ((conv => whnf); (try (refine ⟨(rfl : (_ : Heap) = _), ?_⟩; (conv => whnf))))) | (refine ⟨fun h => ?_, fun _ => ?_⟩; (focus (exfalso; first | (revert h; decide) | (simp at h <;> omega) | omega)); ((conv => whnf); (try (refine ⟨(rfl : (_ : Heap) = _), ?_⟩; (conv => whnf))))) | (refine ⟨by kernel_rfl, ?_⟩; ((conv => whnf); (try (refine ⟨(rfl : (_ : Heap) = _), ?_⟩; (conv => whnf)))))))
            (refine ⟨_, _, (isC (isV_at hn (by omega) rfl) (okD hl ⟨by omega, by omega⟩)).frame rfl _, ?_⟩; (conv => whnf); (try (refine ⟨(rfl : (_ : Heap) = _), ?_⟩; (conv => whnf))); (repeat (first | (refine ⟨fun _ => ?_, fun h => ?_⟩; rotate_left 1; (focus (exfalso; first | (revert h; decide) | (simp at h <;> omega) | omega)); ((conv => whnf); (try (refine ⟨(rfl : (_ : Heap) = _), ?_⟩; (conv => whnf))))) | (refine ⟨fun h => ?_, fun _ => ?_⟩; (focus (exfalso; first | (revert h; decide) | (simp at h <;> omega) | omega)); ((conv => whnf); (try (refine ⟨(rfl : (_ : Heap) = _), ?_⟩; (conv => whnf))))) | (refine ⟨by kernel_rfl, ?_⟩; ((conv => whnf); (try (refine ⟨(rfl : (_ : Heap) = _), ?_⟩; (conv => whnf))))))); rw [i64_nat (by omega)])
            first | ((refine .inl ⟨rfl, m - 1, _, _, by omega, Weak.covD 1 (by (conv => whnf); (repeat (refine ⟨rfl, ?_⟩; (conv => whnf))); exact trivial) rfl rfl rfl rfl rfl, k + 1, false, false, a, by omega, rfl, by omega, by omega, rfl, rfl⟩)) | ((refine .inl ⟨rfl, m - 1, _, _, by omega, Weak.covD 1 (by (conv => whnf); (repeat (refine ⟨rfl, ?_⟩; (conv => whnf))); exact trivial) rfl rfl rfl rfl rfl, k + 1, true, false, a, by omega, rfl, by omega, by omega, rfl, rfl⟩)) | ((refine .inl ⟨rfl, m - 1, _, _, by omega, Weak.covD 1 (by (conv => whnf); (repeat (refine ⟨rfl, ?_⟩; (conv => whnf))); exact trivial) rfl rfl rfl rfl rfl, k + 1, true, true, a, by omega, rfl, by omega, by omega, rfl, rfl⟩))
    · conv => whnf
      refine .inr ⟨by simp, ?_⟩
      conv => whnf
      refine ⟨_, _, (gone_sound).frame rfl _, ?_⟩; (conv => whnf); (try (refine ⟨(rfl : (_ : Heap) = _), ?_⟩; (conv => whnf)))
      cases d <;> cases c
      rotate_left 1
      · exact absurd hdc (by decide)
      all_goals
        (repeat (first | (refine ⟨fun _ => ?_, fun h => ?_⟩; rotate_left 1; (focus (exfalso; first | (revert h; decide) | (simp at h <;> omega) | omega)); ((conv => whnf); (try (refine ⟨(rfl : (_ : Heap) = _), ?_⟩; (conv => whnf))))) | (refine ⟨fun h => ?_, fun _ => ?_⟩; (focus (exfalso; first | (revert h; decide) | (simp at h <;> omega) | omega)); ((conv => whnf); (try (refine ⟨(rfl : (_ : Heap) = _), ?_⟩; (conv => whnf))))) | (refine ⟨by kernel_rfl, ?_⟩; ((conv => whnf); (try (refine ⟨(rfl : (_ : Heap) = _), ?_⟩; (conv => whnf)))))))
        exact ⟨.inl rfl, _, .refl _, rfl⟩
end Go.Gat