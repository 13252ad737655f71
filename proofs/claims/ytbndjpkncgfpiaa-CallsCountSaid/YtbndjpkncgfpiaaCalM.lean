/- Layer 10 (calls): CallsCount, walked. -/
import Derived.Test.YtbndjpkncgfpiaaCalJ
import Derived.Test.YtbndjpkncgfpiaaCalL
namespace Go.Cal
open Go.Ab Go.Proofs Go.Hy
set_option linter.unusedVariables false
set_option maxRecDepth 100000
set_option maxHeartbeats 2000000

def bgn (l : List Eve) (k : Nat) : Int := ((l.take k).countP (·.begin_) : Nat)
def dne (l : List Eve) (k : Nat) : Int := ((l.take k).countP (·.done) : Nat)
def ended (l : List Cal) (k : Nat) : Int := ((l.take k).countP toB : Nat)

theorem bgn_yes {l : List Eve} {k : Nat} (hk : k < l.length) (hl : l.length ≤ 300) (h : l[k].begin_ = true) : bgn l (k + 1) = IntKind.i64.wrap (bgn l k + 1) := by
  have h1 : (l.take k).countP (·.begin_) ≤ (l.take k).length := List.countP_le_length
  have h2 : (l.take k).length ≤ l.length := by simp; omega
  unfold bgn
  rw [i64_ok (by omega) (by omega), take_count _ hk, if_pos h]
  omega
theorem bgn_no {l : List Eve} {k : Nat} (hk : k < l.length) (h : l[k].begin_ = false) : bgn l (k + 1) = bgn l k := by
  unfold bgn
  rw [take_count _ hk, if_neg (by simp [h])]
  rfl
theorem dne_yes {l : List Eve} {k : Nat} (hk : k < l.length) (hl : l.length ≤ 300) (h : l[k].done = true) : dne l (k + 1) = IntKind.i64.wrap (dne l k + 1) := by
  have h1 : (l.take k).countP (·.done) ≤ (l.take k).length := List.countP_le_length
  have h2 : (l.take k).length ≤ l.length := by simp; omega
  unfold dne
  rw [i64_ok (by omega) (by omega), take_count _ hk, if_pos h]
  omega
theorem dne_no {l : List Eve} {k : Nat} (hk : k < l.length) (h : l[k].done = false) : dne l (k + 1) = dne l k := by
  unfold dne
  rw [take_count _ hk, if_neg (by simp [h])]
  rfl
theorem ended_yes {l : List Cal} {k : Nat} (hk : k < l.length) (hl : l.length ≤ 300) (h : 0 ≤ l[k].to_) : ended l (k + 1) = IntKind.i64.wrap (ended l k + 1) := by
  have h1 : (l.take k).countP toB ≤ (l.take k).length := List.countP_le_length
  have h2 : (l.take k).length ≤ l.length := by simp; omega
  unfold ended
  rw [i64_ok (by omega) (by omega), List.take_succ_eq_append_getElem hk, List.countP_append, List.countP_singleton, if_pos (by simpa using h)]
  omega
theorem ended_no {l : List Cal} {k : Nat} (hk : k < l.length) (h : ¬ 0 ≤ l[k].to_) : ended l (k + 1) = ended l k := by
  unfold ended
  rw [List.take_succ_eq_append_getElem hk, List.countP_append, List.countP_singleton, if_neg (by simpa using h)]
  rfl


theorem callsCountL_sound (l : List Eve) (hl : l.length < 900000000000) : SoundAt Try.prog 6 [] [lEv l] (Bo true) [] := by
  have ho := of_sound l hl
  have hlm : (l.map encEv).length = l.length := List.length_map ..
  have key : (ofV l).2 = 0 → (∀ c ∈ (ofV l).1, CalOk (l.length : Int) c) ∧ ((ofV l).1.length : Int) = bgn l l.length ∧ ended (ofV l).1 (ofV l).1.length = dne l l.length ∧ (ofV l).1.length ≤ l.length := fun h => by
    unfold ofV at h ⊢
    cases hb : bkAt l l.length with
    | none => rw [hb] at h; cases h
    | some b =>
      obtain ⟨h1, h2, h3⟩ := bk_count l hb
      have h4 := (bkAt_ok hb).2
      refine ⟨h1, ?_, ?_, h4⟩
      · show ((b.l.length : Nat) : Int) = _; rw [h2]; rfl
      · unfold ended dne; rw [List.take_length, h3]
  generalize ofV l = q at *
  obtain ⟨cs, er⟩ := q
  dsimp only at key
  have hcm : (cs.map encCal).length = cs.length := List.length_map ..
  refine SoundAt.of_wpA1 (fn := Try.f6) Try.func6 rfl ?_
  conv => whnf
  refine ⟨_, _, (ho).frame rfl _, ?_⟩; (conv => whnf); (try (refine ⟨(rfl : (_ : Heap) = _), ?_⟩; (conv => whnf)))
  refine ⟨fun h1 => ?_, fun h1 => ?_⟩
  · (conv => whnf); (try (refine ⟨(rfl : (_ : Heap) = _), ?_⟩; (conv => whnf)))
    refine ⟨_, _, (traced).frame rfl _, ?_⟩; (conv => whnf); (try (refine ⟨(rfl : (_ : Heap) = _), ?_⟩; (conv => whnf)))
    (repeat (first | (refine ⟨fun _ => ?_, fun h => absurd h (by decide)⟩; (conv => whnf); (try (refine ⟨(rfl : (_ : Heap) = _), ?_⟩; (conv => whnf)))) | (refine ⟨fun h => absurd h (by decide), fun _ => ?_⟩; (conv => whnf); (try (refine ⟨(rfl : (_ : Heap) = _), ?_⟩; (conv => whnf))))))
    exact ⟨.inl rfl, _, .refl _, rfl⟩
  · (conv => whnf); (try (refine ⟨(rfl : (_ : Heap) = _), ?_⟩; (conv => whnf)))
    refine ⟨fun h2 => ?_, fun h2 => ?_⟩
    · (conv => whnf); (try (refine ⟨(rfl : (_ : Heap) = _), ?_⟩; (conv => whnf)))
      refine ⟨_, _, (traced).frame rfl _, ?_⟩; (conv => whnf); (try (refine ⟨(rfl : (_ : Heap) = _), ?_⟩; (conv => whnf)))
      (repeat (first | (refine ⟨fun _ => ?_, fun h => absurd h (by decide)⟩; (conv => whnf); (try (refine ⟨(rfl : (_ : Heap) = _), ?_⟩; (conv => whnf)))) | (refine ⟨fun h => absurd h (by decide), fun _ => ?_⟩; (conv => whnf); (try (refine ⟨(rfl : (_ : Heap) = _), ?_⟩; (conv => whnf))))))
      exact ⟨.inl rfl, _, .refl _, rfl⟩
    · have he : er = 0 := by simpa using h2
      subst he
      obtain ⟨k1, k2, k3, k4⟩ := key rfl
      have hl3 : l.length ≤ 300 := by simp at h1; omega
      (conv => whnf); (try (refine ⟨(rfl : (_ : Heap) = _), ?_⟩; (conv => whnf)))
      refine Loops.seq l.length (fun k => [lEv l, .junk, Bo false, lCal cs, I 0, I (bgn l k), I (dne l k), I k, .junk, .junk, .junk, .junk, .junk, .junk, .junk, .junk, .junk, .junk, .junk, .junk, .junk, .junk, .junk, .junk, .junk, .junk, .junk, .junk, .junk, .junk, .junk, .junk, .junk, .junk, .junk, .junk, .junk, .junk, .junk, .junk, .junk, .junk, .junk, .junk, .junk, .junk, .junk, .junk, .junk, .junk, .junk, .junk, .junk, .junk, .junk, .junk, .junk, .junk, .junk, .junk, .junk, .junk, .junk, .junk, .junk, .junk, .junk, .junk, .junk, .junk, .junk, .junk, .junk, .junk, .junk, .junk, .junk, .junk, .junk, .junk, .junk, .junk, .junk, .junk, .junk, .junk, .junk, .junk, .junk, .junk, .junk, .junk, .junk, .junk, .junk, .junk, .junk, .junk, .junk, .junk, .junk, .junk, .junk, .junk, .junk, .junk, .junk, .junk, .junk, .junk, .junk, .junk, .junk, .junk, .junk, .junk, .junk, .junk, .junk, .junk, .junk, .junk, .junk, .junk, .junk, .junk, .junk, .junk, .junk, .junk]) (fun k => []) (fun k => True) ?_ trivial (fun k hk hr => ?_) (fun hr => ?_)
      · exact Weak.cov (by (conv => whnf); (repeat (refine ⟨rfl, ?_⟩; (conv => whnf))); exact trivial)
      · have hg : (l.map encEv)[k]? = some (encEv l[k]) := by rw [List.getElem?_map, List.getElem?_eq_getElem hk]; rfl
        conv => whnf
        refine ⟨fun _ => ?_, fun h => absurd h (by simp; omega)⟩
        conv => whnf
        (refine ⟨by omega, _, by rw [toNat_cast]; exact hg, ?_⟩); (conv => whnf); (try (refine ⟨(rfl : (_ : Heap) = _), ?_⟩; (conv => whnf)))
        refine ⟨fun g1 => ?_, fun g1 => ?_⟩
        · (conv => whnf); (try (refine ⟨(rfl : (_ : Heap) = _), ?_⟩; (conv => whnf)))
          (refine ⟨by omega, _, by rw [toNat_cast]; exact hg, ?_⟩); (conv => whnf); (try (refine ⟨(rfl : (_ : Heap) = _), ?_⟩; (conv => whnf)))
          refine ⟨fun g2 => ?_, fun g2 => ?_⟩
          · (conv => whnf); (try (refine ⟨(rfl : (_ : Heap) = _), ?_⟩; (conv => whnf)))
            refine .inl ⟨rfl, ?_, trivial⟩
            rw [bgn_yes hk hl3 g1, dne_yes hk hl3 g2, i64_nat (by omega)]
            exact Weak.covD 0 (by (conv => whnf); (repeat (refine ⟨rfl, ?_⟩; (conv => whnf))); exact trivial) rfl rfl rfl rfl rfl
          · (conv => whnf); (try (refine ⟨(rfl : (_ : Heap) = _), ?_⟩; (conv => whnf)))
            refine .inl ⟨rfl, ?_, trivial⟩
            rw [bgn_yes hk hl3 g1, dne_no hk g2, i64_nat (by omega)]
            exact Weak.covD 0 (by (conv => whnf); (repeat (refine ⟨rfl, ?_⟩; (conv => whnf))); exact trivial) rfl rfl rfl rfl rfl
        · (conv => whnf); (try (refine ⟨(rfl : (_ : Heap) = _), ?_⟩; (conv => whnf)))
          (refine ⟨by omega, _, by rw [toNat_cast]; exact hg, ?_⟩); (conv => whnf); (try (refine ⟨(rfl : (_ : Heap) = _), ?_⟩; (conv => whnf)))
          refine ⟨fun g2 => ?_, fun g2 => ?_⟩
          · (conv => whnf); (try (refine ⟨(rfl : (_ : Heap) = _), ?_⟩; (conv => whnf)))
            refine .inl ⟨rfl, ?_, trivial⟩
            rw [bgn_no hk g1, dne_yes hk hl3 g2, i64_nat (by omega)]
            exact Weak.covD 0 (by (conv => whnf); (repeat (refine ⟨rfl, ?_⟩; (conv => whnf))); exact trivial) rfl rfl rfl rfl rfl
          · (conv => whnf); (try (refine ⟨(rfl : (_ : Heap) = _), ?_⟩; (conv => whnf)))
            refine .inl ⟨rfl, ?_, trivial⟩
            rw [bgn_no hk g1, dne_no hk g2, i64_nat (by omega)]
            exact Weak.covD 0 (by (conv => whnf); (repeat (refine ⟨rfl, ?_⟩; (conv => whnf))); exact trivial) rfl rfl rfl rfl rfl
      · conv => whnf
        refine ⟨fun h => absurd h (by simp), fun h => ?_⟩
        conv => whnf
        refine ⟨by simp, ?_⟩
        conv => whnf
        refine Loops.seq cs.length (fun k => [lEv l, .junk, Bo false, lCal cs, I 0, I (bgn l l.length), I (dne l l.length), .junk, I (ended cs k), I k, .junk, .junk, .junk, .junk, .junk, .junk, .junk, .junk, .junk, .junk, .junk, .junk, .junk, .junk, .junk, .junk, .junk, .junk, .junk, .junk, .junk, .junk, .junk, .junk, .junk, .junk, .junk, .junk, .junk, .junk, .junk, .junk, .junk, .junk, .junk, .junk, .junk, .junk, .junk, .junk, .junk, .junk, .junk, .junk, .junk, .junk, .junk, .junk, .junk, .junk, .junk, .junk, .junk, .junk, .junk, .junk, .junk, .junk, .junk, .junk, .junk, .junk, .junk, .junk, .junk, .junk, .junk, .junk, .junk, .junk, .junk, .junk, .junk, .junk, .junk, .junk, .junk, .junk, .junk, .junk, .junk, .junk, .junk, .junk, .junk, .junk, .junk, .junk, .junk, .junk, .junk, .junk, .junk, .junk, .junk, .junk, .junk, .junk, .junk, .junk, .junk, .junk, .junk, .junk, .junk, .junk, .junk, .junk, .junk, .junk, .junk, .junk, .junk, .junk, .junk, .junk, .junk, .junk, .junk, .junk]) (fun k => []) (fun k => True) ?_ trivial (fun k hk hr => ?_) (fun hr => ?_)
        · exact Weak.cov (by (conv => whnf); (repeat (refine ⟨rfl, ?_⟩; (conv => whnf))); exact trivial)
        · obtain ⟨c, hc⟩ : ∃ c, c = cs[k] := ⟨_, rfl⟩
          have hg : (cs.map encCal)[k]? = some (encCal c) := by rw [List.getElem?_map, List.getElem?_eq_getElem hk, hc]; rfl
          obtain ⟨q1, q2, q3, q4⟩ := k1 c (hc ▸ List.getElem_mem hk)
          conv => whnf
          refine ⟨fun _ => ?_, fun h => absurd h (by simp; omega)⟩
          conv => whnf
          (refine ⟨by omega, _, by rw [toNat_cast]; exact hg, ?_⟩); (conv => whnf); (try (refine ⟨(rfl : (_ : Heap) = _), ?_⟩; (conv => whnf)))
          refine ⟨fun g1 => ?_, fun g1 => ?_⟩
          · have g1' : 0 ≤ c.to_ := by simpa using g1
            have q4' := q4 g1'
            (conv => whnf); (try (refine ⟨(rfl : (_ : Heap) = _), ?_⟩; (conv => whnf)))
            refine ⟨⟨false, [], []⟩, by kernel_rfl, ?_⟩; (conv => whnf)
            (refine ⟨by omega, _, by rw [toNat_cast]; exact hg, ?_⟩); (conv => whnf); (try (refine ⟨(rfl : (_ : Heap) = _), ?_⟩; (conv => whnf)))
            refine ⟨fun _ => ?_, fun h => absurd ((g1).symm.trans h : true = false) (by decide)⟩; (conv => whnf); (try (refine ⟨(rfl : (_ : Heap) = _), ?_⟩; (conv => whnf)))
            (refine ⟨by omega, _, by rw [toNat_cast]; exact hg, ?_⟩); (conv => whnf); (try (refine ⟨(rfl : (_ : Heap) = _), ?_⟩; (conv => whnf)))
            (refine ⟨by omega, _, by rw [toNat_cast]; exact hg, ?_⟩); (conv => whnf); (try (refine ⟨(rfl : (_ : Heap) = _), ?_⟩; (conv => whnf)))
            (refine ⟨fun h => absurd h (by simp; omega), fun _ => ?_⟩); (conv => whnf); (try (refine ⟨(rfl : (_ : Heap) = _), ?_⟩; (conv => whnf)))
            (refine ⟨by omega, _, by rw [toNat_cast]; exact hg, ?_⟩); (conv => whnf); (try (refine ⟨(rfl : (_ : Heap) = _), ?_⟩; (conv => whnf)))
            refine ⟨fun g2 => ?_, fun g2 => ?_⟩
            · have g2' : 0 ≤ c.point := by simpa using g2
              (conv => whnf); (try (refine ⟨(rfl : (_ : Heap) = _), ?_⟩; (conv => whnf)))
              (refine ⟨by omega, _, by rw [toNat_cast]; exact hg, ?_⟩); (conv => whnf); (try (refine ⟨(rfl : (_ : Heap) = _), ?_⟩; (conv => whnf)))
              (refine ⟨by omega, _, by rw [toNat_cast]; exact hg, ?_⟩); (conv => whnf); (try (refine ⟨(rfl : (_ : Heap) = _), ?_⟩; (conv => whnf)))
              (refine ⟨fun h => absurd h (by simp; omega), fun _ => ?_⟩); (conv => whnf); (try (refine ⟨(rfl : (_ : Heap) = _), ?_⟩; (conv => whnf)))
              (refine ⟨by omega, _, by rw [toNat_cast]; exact hg, ?_⟩); (conv => whnf); (try (refine ⟨(rfl : (_ : Heap) = _), ?_⟩; (conv => whnf)))
              refine ⟨fun _ => ?_, fun h => absurd ((g1).symm.trans h : true = false) (by decide)⟩; (conv => whnf); (try (refine ⟨(rfl : (_ : Heap) = _), ?_⟩; (conv => whnf)))
              (refine ⟨by omega, _, by rw [toNat_cast]; exact hg, ?_⟩); (conv => whnf); (try (refine ⟨(rfl : (_ : Heap) = _), ?_⟩; (conv => whnf)))
              (refine ⟨by omega, _, by rw [toNat_cast]; exact hg, ?_⟩); (conv => whnf); (try (refine ⟨(rfl : (_ : Heap) = _), ?_⟩; (conv => whnf)))
              (refine ⟨fun h => absurd h (by simp; omega), fun _ => ?_⟩); (conv => whnf); (try (refine ⟨(rfl : (_ : Heap) = _), ?_⟩; (conv => whnf)))
              (try (repeat (first | (refine ⟨fun _ => ?_, fun h => absurd h (by decide)⟩; (conv => whnf); (try (refine ⟨(rfl : (_ : Heap) = _), ?_⟩; (conv => whnf)))) | (refine ⟨fun h => absurd h (by decide), fun _ => ?_⟩; (conv => whnf); (try (refine ⟨(rfl : (_ : Heap) = _), ?_⟩; (conv => whnf)))))))
              refine .inl ⟨rfl, ?_, trivial⟩
              rw [ended_yes hk (by omega) (by rw [← hc]; exact g1'), i64_nat (by omega)]
              exact Weak.covD 0 (by (conv => whnf); (repeat (refine ⟨rfl, ?_⟩; (conv => whnf))); exact trivial) rfl rfl rfl rfl rfl
            · (conv => whnf); (try (refine ⟨(rfl : (_ : Heap) = _), ?_⟩; (conv => whnf)))
              (try (repeat (first | (refine ⟨fun _ => ?_, fun h => absurd h (by decide)⟩; (conv => whnf); (try (refine ⟨(rfl : (_ : Heap) = _), ?_⟩; (conv => whnf)))) | (refine ⟨fun h => absurd h (by decide), fun _ => ?_⟩; (conv => whnf); (try (refine ⟨(rfl : (_ : Heap) = _), ?_⟩; (conv => whnf)))))))
              refine .inl ⟨rfl, ?_, trivial⟩
              rw [ended_yes hk (by omega) (by rw [← hc]; exact g1'), i64_nat (by omega)]
              exact Weak.covD 0 (by (conv => whnf); (repeat (refine ⟨rfl, ?_⟩; (conv => whnf))); exact trivial) rfl rfl rfl rfl rfl
          · have g1' : ¬ 0 ≤ c.to_ := by simpa using g1
            (conv => whnf); (try (refine ⟨(rfl : (_ : Heap) = _), ?_⟩; (conv => whnf)))
            refine ⟨⟨false, [], []⟩, by kernel_rfl, ?_⟩; (conv => whnf)
            (refine ⟨by omega, _, by rw [toNat_cast]; exact hg, ?_⟩); (conv => whnf); (try (refine ⟨(rfl : (_ : Heap) = _), ?_⟩; (conv => whnf)))
            refine ⟨fun h => absurd ((g1).symm.trans h : false = true) (by decide), fun _ => ?_⟩; (conv => whnf); (try (refine ⟨(rfl : (_ : Heap) = _), ?_⟩; (conv => whnf)))
            (refine ⟨by omega, _, by rw [toNat_cast]; exact hg, ?_⟩); (conv => whnf); (try (refine ⟨(rfl : (_ : Heap) = _), ?_⟩; (conv => whnf)))
            refine ⟨fun g2 => ?_, fun g2 => ?_⟩
            · have g2' : 0 ≤ c.point := by simpa using g2
              (conv => whnf); (try (refine ⟨(rfl : (_ : Heap) = _), ?_⟩; (conv => whnf)))
              (refine ⟨by omega, _, by rw [toNat_cast]; exact hg, ?_⟩); (conv => whnf); (try (refine ⟨(rfl : (_ : Heap) = _), ?_⟩; (conv => whnf)))
              (refine ⟨by omega, _, by rw [toNat_cast]; exact hg, ?_⟩); (conv => whnf); (try (refine ⟨(rfl : (_ : Heap) = _), ?_⟩; (conv => whnf)))
              (refine ⟨fun h => absurd h (by simp; omega), fun _ => ?_⟩); (conv => whnf); (try (refine ⟨(rfl : (_ : Heap) = _), ?_⟩; (conv => whnf)))
              (refine ⟨by omega, _, by rw [toNat_cast]; exact hg, ?_⟩); (conv => whnf); (try (refine ⟨(rfl : (_ : Heap) = _), ?_⟩; (conv => whnf)))
              refine ⟨fun h => absurd ((g1).symm.trans h : false = true) (by decide), fun _ => ?_⟩; (conv => whnf); (try (refine ⟨(rfl : (_ : Heap) = _), ?_⟩; (conv => whnf)))
              (try (repeat (first | (refine ⟨fun _ => ?_, fun h => absurd h (by decide)⟩; (conv => whnf); (try (refine ⟨(rfl : (_ : Heap) = _), ?_⟩; (conv => whnf)))) | (refine ⟨fun h => absurd h (by decide), fun _ => ?_⟩; (conv => whnf); (try (refine ⟨(rfl : (_ : Heap) = _), ?_⟩; (conv => whnf)))))))
              refine .inl ⟨rfl, ?_, trivial⟩
              rw [ended_no hk (by rw [← hc]; exact g1'), i64_nat (by omega)]
              exact Weak.covD 0 (by (conv => whnf); (repeat (refine ⟨rfl, ?_⟩; (conv => whnf))); exact trivial) rfl rfl rfl rfl rfl
            · (conv => whnf); (try (refine ⟨(rfl : (_ : Heap) = _), ?_⟩; (conv => whnf)))
              (try (repeat (first | (refine ⟨fun _ => ?_, fun h => absurd h (by decide)⟩; (conv => whnf); (try (refine ⟨(rfl : (_ : Heap) = _), ?_⟩; (conv => whnf)))) | (refine ⟨fun h => absurd h (by decide), fun _ => ?_⟩; (conv => whnf); (try (refine ⟨(rfl : (_ : Heap) = _), ?_⟩; (conv => whnf)))))))
              refine .inl ⟨rfl, ?_, trivial⟩
              rw [ended_no hk (by rw [← hc]; exact g1'), i64_nat (by omega)]
              exact Weak.covD 0 (by (conv => whnf); (repeat (refine ⟨rfl, ?_⟩; (conv => whnf))); exact trivial) rfl rfl rfl rfl rfl
        · conv => whnf
          refine ⟨fun h => absurd h (by simp), fun h => ?_⟩
          conv => whnf
          refine ⟨by simp, ?_⟩
          conv => whnf
          refine ⟨_, _, (traced).frame rfl _, ?_⟩; (conv => whnf); (try (refine ⟨(rfl : (_ : Heap) = _), ?_⟩; (conv => whnf)))
          (repeat (first | (refine ⟨fun _ => ?_, fun h => absurd h (by decide)⟩; (conv => whnf); (try (refine ⟨(rfl : (_ : Heap) = _), ?_⟩; (conv => whnf)))) | (refine ⟨fun h => absurd h (by decide), fun _ => ?_⟩; (conv => whnf); (try (refine ⟨(rfl : (_ : Heap) = _), ?_⟩; (conv => whnf))))))
          refine ⟨fun _ => ?_, fun h => absurd h (by rw [hcm, k2]; simp)⟩
          (conv => whnf); (try (refine ⟨(rfl : (_ : Heap) = _), ?_⟩; (conv => whnf)))
          refine ⟨fun _ => ?_, fun h => absurd h (by rw [k3]; simp)⟩
          (conv => whnf); (try (refine ⟨(rfl : (_ : Heap) = _), ?_⟩; (conv => whnf)))
          exact ⟨.inl rfl, _, .refl _, rfl⟩

end Go.Cal
