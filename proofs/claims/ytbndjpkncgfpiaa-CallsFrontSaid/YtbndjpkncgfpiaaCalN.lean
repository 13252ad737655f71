/- Layer 10 (calls): CallsFront, walked. -/
import Derived.Test.YtbndjpkncgfpiaaCalJ
import Derived.Test.YtbndjpkncgfpiaaCalL
namespace Go.Cal
open Go.Ab Go.Proofs Go.Hy
set_option linter.unusedVariables false
set_option maxRecDepth 100000
set_option maxHeartbeats 2000000

theorem front_key (l : List Eve) (m : Nat) (hm : m ≤ l.length) (h : (ofV l).2 = 0) : (ofV (l.take m)).2 = 0 ∧ (ofV (l.take m)).1.length ≤ (ofV l).1.length ∧
    ∀ (n : Nat) (d : Cal), (ofV (l.take m)).1[n]? = some d → ∃ c : Cal, (ofV l).1[n]? = some c ∧ c.thread = d.thread ∧ c.op = d.op ∧ c.from_ = d.from_ ∧ d.point ≤ c.point ∧ (0 ≤ d.to_ → c = d) := by
  have hlt : (l.take m).length = m := by simp; omega
  cases hb : bkAt l l.length with
  | none => unfold ofV at h; rw [hb] at h; cases h
  | some b =>
    cases hb1 : bkAt l m with
    | none => rw [bkAt_none hb1 l.length hm] at hb; cases hb
    | some b1 =>
      have e1 : ofV l = (b.l, 0) := by unfold ofV; rw [hb]
      have e2 : ofV (l.take m) = (b1.l, 0) := by unfold ofV; rw [hlt, bk_take l m m (Nat.le_refl _), hb1]
      have g : Goes b1 b := goes hb1 (l.length - m) b (by rw [Nat.add_sub_cancel' hm]; exact hb)
      rw [e1, e2]
      refine ⟨rfl, ?_, g⟩
      show b1.l.length ≤ b.l.length
      rcases Nat.lt_or_ge b.l.length b1.l.length with h1 | h1
      · obtain ⟨c, hc, _⟩ := g b.l.length _ (List.getElem?_eq_getElem h1)
        rw [List.getElem?_eq_none (Nat.le_refl _)] at hc
        cases hc
      · exact h1

theorem ofV_len' (l : List Eve) : (ofV l).1.length ≤ l.length := by
  unfold ofV
  cases h : bkAt l l.length with
  | none => exact Nat.zero_le _
  | some b => exact (bkAt_ok h).2


theorem callsFrontL_sound (l : List Eve) (n : Int) (hl : l.length < 900000000000) : SoundAt Try.prog 5 [] [lEv l, I n] (Bo true) [] := by
  have ho := of_sound l hl
  have hlm : (l.map encEv).length = l.length := List.length_map ..
  have hlt : (l.take n.toNat).length ≤ l.length := by simp; omega
  have ho2 := of_sound (l.take n.toNat) (by omega)
  have key := fun h => front_key l n.toNat h
  have hle := ofV_len' l
  have hle2 := ofV_len' (l.take n.toNat)
  generalize ofV l = q at *
  generalize ofV (l.take n.toNat) = q2 at *
  obtain ⟨cs, er⟩ := q
  obtain ⟨ds, er2⟩ := q2
  dsimp only at key hle hle2
  have hcm : (cs.map encCal).length = cs.length := List.length_map ..
  have hdm : (ds.map encCal).length = ds.length := List.length_map ..
  refine SoundAt.of_wpA1 (fn := Try.f5) Try.func5 rfl ?_
  conv => whnf
  refine ⟨_, _, (ho).frame rfl _, ?_⟩; (conv => whnf); (try (refine ⟨(rfl : (_ : Heap) = _), ?_⟩; (conv => whnf)))
  refine ⟨fun h1 => ?_, fun h1 => ?_⟩
  · (conv => whnf); (try (refine ⟨(rfl : (_ : Heap) = _), ?_⟩; (conv => whnf)))
    (repeat (first | (refine ⟨fun _ => ?_, fun h => absurd h (by decide)⟩; (conv => whnf); (try (refine ⟨(rfl : (_ : Heap) = _), ?_⟩; (conv => whnf)))) | (refine ⟨fun h => absurd h (by decide), fun _ => ?_⟩; (conv => whnf); (try (refine ⟨(rfl : (_ : Heap) = _), ?_⟩; (conv => whnf))))))
    refine ⟨_, _, (traced).frame rfl _, ?_⟩; (conv => whnf); (try (refine ⟨(rfl : (_ : Heap) = _), ?_⟩; (conv => whnf))); (repeat (first | (refine ⟨fun _ => ?_, fun h => absurd h (by decide)⟩; (conv => whnf); (try (refine ⟨(rfl : (_ : Heap) = _), ?_⟩; (conv => whnf)))) | (refine ⟨fun h => absurd h (by decide), fun _ => ?_⟩; (conv => whnf); (try (refine ⟨(rfl : (_ : Heap) = _), ?_⟩; (conv => whnf)))))); exact ⟨.inl rfl, _, .refl _, rfl⟩
  · (conv => whnf); (try (refine ⟨(rfl : (_ : Heap) = _), ?_⟩; (conv => whnf)))
    refine ⟨fun h2 => ?_, fun h2 => ?_⟩
    · (conv => whnf); (try (refine ⟨(rfl : (_ : Heap) = _), ?_⟩; (conv => whnf)))
      (repeat (first | (refine ⟨fun _ => ?_, fun h => absurd h (by decide)⟩; (conv => whnf); (try (refine ⟨(rfl : (_ : Heap) = _), ?_⟩; (conv => whnf)))) | (refine ⟨fun h => absurd h (by decide), fun _ => ?_⟩; (conv => whnf); (try (refine ⟨(rfl : (_ : Heap) = _), ?_⟩; (conv => whnf))))))
      refine ⟨_, _, (traced).frame rfl _, ?_⟩; (conv => whnf); (try (refine ⟨(rfl : (_ : Heap) = _), ?_⟩; (conv => whnf))); (repeat (first | (refine ⟨fun _ => ?_, fun h => absurd h (by decide)⟩; (conv => whnf); (try (refine ⟨(rfl : (_ : Heap) = _), ?_⟩; (conv => whnf)))) | (refine ⟨fun h => absurd h (by decide), fun _ => ?_⟩; (conv => whnf); (try (refine ⟨(rfl : (_ : Heap) = _), ?_⟩; (conv => whnf)))))); exact ⟨.inl rfl, _, .refl _, rfl⟩
    · (conv => whnf); (try (refine ⟨(rfl : (_ : Heap) = _), ?_⟩; (conv => whnf)))
      refine ⟨fun h3 => ?_, fun h3 => ?_⟩
      · (conv => whnf); (try (refine ⟨(rfl : (_ : Heap) = _), ?_⟩; (conv => whnf)))
        (repeat (first | (refine ⟨fun _ => ?_, fun h => absurd h (by decide)⟩; (conv => whnf); (try (refine ⟨(rfl : (_ : Heap) = _), ?_⟩; (conv => whnf)))) | (refine ⟨fun h => absurd h (by decide), fun _ => ?_⟩; (conv => whnf); (try (refine ⟨(rfl : (_ : Heap) = _), ?_⟩; (conv => whnf))))))
        refine ⟨_, _, (traced).frame rfl _, ?_⟩; (conv => whnf); (try (refine ⟨(rfl : (_ : Heap) = _), ?_⟩; (conv => whnf))); (repeat (first | (refine ⟨fun _ => ?_, fun h => absurd h (by decide)⟩; (conv => whnf); (try (refine ⟨(rfl : (_ : Heap) = _), ?_⟩; (conv => whnf)))) | (refine ⟨fun h => absurd h (by decide), fun _ => ?_⟩; (conv => whnf); (try (refine ⟨(rfl : (_ : Heap) = _), ?_⟩; (conv => whnf)))))); exact ⟨.inl rfl, _, .refl _, rfl⟩
      · (conv => whnf); (try (refine ⟨(rfl : (_ : Heap) = _), ?_⟩; (conv => whnf)))
        refine ⟨fun h4 => ?_, fun h4 => ?_⟩
        · (conv => whnf); (try (refine ⟨(rfl : (_ : Heap) = _), ?_⟩; (conv => whnf)))
          refine ⟨_, _, (traced).frame rfl _, ?_⟩; (conv => whnf); (try (refine ⟨(rfl : (_ : Heap) = _), ?_⟩; (conv => whnf))); (repeat (first | (refine ⟨fun _ => ?_, fun h => absurd h (by decide)⟩; (conv => whnf); (try (refine ⟨(rfl : (_ : Heap) = _), ?_⟩; (conv => whnf)))) | (refine ⟨fun h => absurd h (by decide), fun _ => ?_⟩; (conv => whnf); (try (refine ⟨(rfl : (_ : Heap) = _), ?_⟩; (conv => whnf)))))); exact ⟨.inl rfl, _, .refl _, rfl⟩
        · have he : er = 0 := by simpa using h2
          subst he
          have h3' : 0 ≤ n := by simpa using h3
          have h4' : n.toNat ≤ l.length := by simp at h4; omega
          obtain ⟨k1, k2, k3⟩ := key h4' rfl
          subst k1
          (conv => whnf); (try (refine ⟨(rfl : (_ : Heap) = _), ?_⟩; (conv => whnf)))
          refine ⟨.inr rfl, ?_⟩
          (conv => whnf); (try (refine ⟨(rfl : (_ : Heap) = _), ?_⟩; (conv => whnf)))
          refine ⟨h3', Nat.zero_le _, by rw [hlm]; exact h4', ?_⟩
          (conv => whnf); (try (refine ⟨(rfl : (_ : Heap) = _), ?_⟩; (conv => whnf)))
          rw [List.drop_zero, Nat.sub_zero, ← List.map_take]
          refine ⟨_, _, (ho2).frame rfl _, ?_⟩; (conv => whnf); (try (refine ⟨(rfl : (_ : Heap) = _), ?_⟩; (conv => whnf)))
          refine ⟨fun h => absurd h (by simp), fun _ => ?_⟩
          (conv => whnf); (try (refine ⟨(rfl : (_ : Heap) = _), ?_⟩; (conv => whnf)))
          refine ⟨fun h => absurd h (by rw [hcm, hdm]; simp; omega), fun _ => ?_⟩
          (conv => whnf); (try (refine ⟨(rfl : (_ : Heap) = _), ?_⟩; (conv => whnf)))
          refine Loops.seq ds.length (fun k => [lEv l, I n, .junk, .junk, Bo false, lCal cs, .junk, lCal ds, .junk, I k, .junk, .junk, .junk, .junk, .junk, .junk, .junk, .junk, .junk, .junk, .junk, .junk, .junk, .junk, .junk, .junk, .junk, .junk, .junk, .junk, .junk, .junk, .junk, .junk, .junk, .junk, .junk, .junk, .junk, .junk, .junk, .junk, .junk, .junk, .junk, .junk, .junk, .junk, .junk, .junk, .junk, .junk, .junk, .junk, .junk, .junk, .junk, .junk, .junk, .junk, .junk, .junk, .junk, .junk, .junk, .junk, .junk, .junk, .junk, .junk, .junk, .junk, .junk, .junk, .junk, .junk, .junk, .junk, .junk, .junk, .junk, .junk, .junk, .junk, .junk, .junk, .junk, .junk, .junk, .junk, .junk, .junk, .junk, .junk, .junk, .junk, .junk, .junk, .junk, .junk, .junk, .junk, .junk, .junk, .junk, .junk, .junk, .junk, .junk, .junk, .junk, .junk, .junk, .junk, .junk, .junk, .junk, .junk, .junk, .junk, .junk, .junk, .junk, .junk, .junk]) (fun k => []) (fun k => True) ?_ trivial (fun k hk hr => ?_) (fun hr => ?_)
          · exact Weak.cov (by (conv => whnf); (repeat (refine ⟨rfl, ?_⟩; (conv => whnf))); exact trivial)
          · obtain ⟨d, hd⟩ : ∃ d, d = ds[k] := ⟨_, rfl⟩
            have hd2 : ds[k]? = some d := by rw [hd]; exact List.getElem?_eq_getElem hk
            have hg : (ds.map encCal)[k]? = some (encCal d) := by rw [List.getElem?_map, hd2]; rfl
            obtain ⟨c, hc2, q1, q2, q3, q4, q5⟩ := k3 k d hd2
            have hg' : (cs.map encCal)[k]? = some (encCal c) := by rw [List.getElem?_map, hc2]; rfl
            conv => whnf
            refine ⟨fun _ => ?_, fun h => absurd h (by simp; omega)⟩
            conv => whnf
            refine ⟨⟨false, [], []⟩, by kernel_rfl, ?_⟩; (conv => whnf)
            (refine ⟨by omega, _, by rw [toNat_cast]; exact hg, ?_⟩); (conv => whnf); (try (refine ⟨(rfl : (_ : Heap) = _), ?_⟩; (conv => whnf)))
            (refine ⟨by omega, _, by rw [toNat_cast]; exact hg', ?_⟩); (conv => whnf); (try (refine ⟨(rfl : (_ : Heap) = _), ?_⟩; (conv => whnf)))
            (refine ⟨fun h => absurd h (by rw [q1]; simp), fun _ => ?_⟩); (conv => whnf); (try (refine ⟨(rfl : (_ : Heap) = _), ?_⟩; (conv => whnf)))
            (refine ⟨by omega, _, by rw [toNat_cast]; exact hg, ?_⟩); (conv => whnf); (try (refine ⟨(rfl : (_ : Heap) = _), ?_⟩; (conv => whnf)))
            (refine ⟨by omega, _, by rw [toNat_cast]; exact hg', ?_⟩); (conv => whnf); (try (refine ⟨(rfl : (_ : Heap) = _), ?_⟩; (conv => whnf)))
            (refine ⟨fun h => absurd h (by rw [q2]; simp), fun _ => ?_⟩); (conv => whnf); (try (refine ⟨(rfl : (_ : Heap) = _), ?_⟩; (conv => whnf)))
            (refine ⟨by omega, _, by rw [toNat_cast]; exact hg, ?_⟩); (conv => whnf); (try (refine ⟨(rfl : (_ : Heap) = _), ?_⟩; (conv => whnf)))
            (refine ⟨by omega, _, by rw [toNat_cast]; exact hg', ?_⟩); (conv => whnf); (try (refine ⟨(rfl : (_ : Heap) = _), ?_⟩; (conv => whnf)))
            (refine ⟨fun h => absurd h (by rw [q3]; simp), fun _ => ?_⟩); (conv => whnf); (try (refine ⟨(rfl : (_ : Heap) = _), ?_⟩; (conv => whnf)))
            (refine ⟨by omega, _, by rw [toNat_cast]; exact hg, ?_⟩); (conv => whnf); (try (refine ⟨(rfl : (_ : Heap) = _), ?_⟩; (conv => whnf)))
            (refine ⟨by omega, _, by rw [toNat_cast]; exact hg', ?_⟩); (conv => whnf); (try (refine ⟨(rfl : (_ : Heap) = _), ?_⟩; (conv => whnf)))
            refine ⟨fun h => absurd h (by simp; omega), fun _ => ?_⟩
            (conv => whnf); (try (refine ⟨(rfl : (_ : Heap) = _), ?_⟩; (conv => whnf)))
            (refine ⟨by omega, _, by rw [toNat_cast]; exact hg, ?_⟩); (conv => whnf); (try (refine ⟨(rfl : (_ : Heap) = _), ?_⟩; (conv => whnf)))
            refine ⟨fun g => ?_, fun g => ?_⟩
            · have e := q5 (by simpa using g)
              subst e
              (conv => whnf); (try (refine ⟨(rfl : (_ : Heap) = _), ?_⟩; (conv => whnf)))
              (refine ⟨by omega, _, by rw [toNat_cast]; exact hg, ?_⟩); (conv => whnf); (try (refine ⟨(rfl : (_ : Heap) = _), ?_⟩; (conv => whnf)))
              (refine ⟨by omega, _, by rw [toNat_cast]; exact hg', ?_⟩); (conv => whnf); (try (refine ⟨(rfl : (_ : Heap) = _), ?_⟩; (conv => whnf)))
              refine ⟨by kernel_rfl, ?_⟩
              (conv => whnf); (try (refine ⟨(rfl : (_ : Heap) = _), ?_⟩; (conv => whnf)))
              refine ⟨fun h => absurd h (by simp), fun _ => ?_⟩
              (conv => whnf); (try (refine ⟨(rfl : (_ : Heap) = _), ?_⟩; (conv => whnf)))
              refine .inl ⟨rfl, ?_, trivial⟩
              rw [i64_nat (by omega)]
              exact Weak.covD 0 (by (conv => whnf); (repeat (refine ⟨rfl, ?_⟩; (conv => whnf))); exact trivial) rfl rfl rfl rfl rfl
            · (conv => whnf); (try (refine ⟨(rfl : (_ : Heap) = _), ?_⟩; (conv => whnf)))
              refine .inl ⟨rfl, ?_, trivial⟩
              rw [i64_nat (by omega)]
              exact Weak.covD 0 (by (conv => whnf); (repeat (refine ⟨rfl, ?_⟩; (conv => whnf))); exact trivial) rfl rfl rfl rfl rfl
          · conv => whnf
            refine ⟨fun h => absurd h (by simp), fun h => ?_⟩
            conv => whnf
            refine ⟨by simp, ?_⟩
            conv => whnf
            refine ⟨_, _, (traced).frame rfl _, ?_⟩; (conv => whnf); (try (refine ⟨(rfl : (_ : Heap) = _), ?_⟩; (conv => whnf))); (repeat (first | (refine ⟨fun _ => ?_, fun h => absurd h (by decide)⟩; (conv => whnf); (try (refine ⟨(rfl : (_ : Heap) = _), ?_⟩; (conv => whnf)))) | (refine ⟨fun h => absurd h (by decide), fun _ => ?_⟩; (conv => whnf); (try (refine ⟨(rfl : (_ : Heap) = _), ?_⟩; (conv => whnf)))))); exact ⟨.inl rfl, _, .refl _, rfl⟩

end Go.Cal
