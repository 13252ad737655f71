/- Joined: CalG CalH CalI CalJ. -/
import Derived.Test.YtbndjpkncgfpiaaGreatQH
import Derived.Test.YtbndjpkncgfpiaaGreatQC
/- Layer 10 (calls): the document's answer, walked. -/
namespace Go.Cal
open Go.Ab Go.Proofs Go.Hy
set_option linter.unusedVariables false
set_option maxRecDepth 100000

abbrev placeI (l : List Cal) (t o : Int) : Int := match placeV l t o with | some n => (n : Int) | none => -1

theorem place_at {l : List Cal} {t o : Int} {k : Nat} (hk : k < l.length) (hr : ∀ j, (h : j < l.length) → j < k → ¬ (l[j].thread = t ∧ l[j].op = o)) (h1 : l[k].thread = t) (h2 : l[k].op = o) : placeV l t o = some k := by
  unfold placeV
  rw [List.findIdx?_eq_some_iff_getElem]
  refine ⟨hk, by simp [h1, h2], fun j hj => ?_⟩
  have := hr j (by omega) hj
  simpa using this
theorem place_no {l : List Cal} {t o : Int} (hr : ∀ j, (h : j < l.length) → j < l.length → ¬ (l[j].thread = t ∧ l[j].op = o)) : placeV l t o = none := by
  unfold placeV
  rw [List.findIdx?_eq_none_iff]
  intro c hc
  obtain ⟨j, hj, rfl⟩ := List.mem_iff_getElem.1 hc
  have := hr j hj hj
  simpa using this
theorem busy_at {l : List Cal} {t : Int} {k : Nat} (hk : k < l.length) (h1 : l[k].thread = t) (h2 : l[k].to_ < 0) : busyV l t = true := by
  unfold busyV
  rw [List.any_eq_true]
  exact ⟨l[k], List.getElem_mem hk, by simp [h1, h2]⟩
theorem busy_no {l : List Cal} {t : Int} (hr : ∀ j, (h : j < l.length) → j < l.length → ¬ (l[j].thread = t ∧ l[j].to_ < 0)) : busyV l t = false := by
  unfold busyV
  rw [List.any_eq_false]
  intro c hc
  obtain ⟨j, hj, rfl⟩ := List.mem_iff_getElem.1 hc
  have := hr j hj hj
  simpa using this

theorem place_sound (l : List Cal) (X : Ob) (t o : Int) (hl : l.length < 4611686018427387904) :
    SoundAt Tryz.prog 30 [⟨2, 54, 18, (l).map encCal, 0⟩, X] [.sl 0 [] 18 0 l.length false, I t, I o] (I (placeI l t o)) [⟨2, 54, 18, (l).map encCal, 0⟩, X] := by
  refine SoundAt.of_wpA (fn := Tryz.f30) Tryz.func30 rfl ?_
  have hlm : (l.map encCal).length = l.length := List.length_map ..
  conv => whnf
  refine Loops.seq l.length (fun k => [.sl 0 [] 18 0 l.length false, I t, I o, .junk, .junk, .junk, I 0, I k, .junk, .junk, .junk, .junk, .junk, .junk, .junk, .junk, .junk, .junk, .junk, .junk, .junk, .junk, .junk, .junk, .junk, .junk, .junk, .junk, .junk, .junk, .junk]) (fun k => [⟨2, 54, 18, (l).map encCal, 0⟩, X]) (fun k => ∀ j, (h : j < l.length) → j < k → ¬ (l[j].thread = t ∧ l[j].op = o)) ?_ (by simp) (fun k hk hr => ?_) (fun hr => ?_)
  · exact Weak.cov (by (conv => whnf); (repeat (refine ⟨rfl, ?_⟩; (conv => whnf))); exact trivial)
  · have hg : (l.map encCal)[k]? = some (encCal l[k]) := by rw [List.getElem?_map, List.getElem?_eq_getElem hk]; rfl
    conv => whnf
    refine ⟨fun _ => ?_, fun h => absurd h (by simp; omega)⟩
    conv => whnf
    refine ⟨by omega, by rw [toNat_cast]; exact hk, ?_⟩
    (conv => whnf); (try (refine ⟨(rfl : (_ : Heap) = _), ?_⟩; (conv => whnf)))
    rw [toNat_cast, Nat.zero_add]
    refine ⟨_, hg, Nat.le_of_ble_eq_true rfl, ?_⟩
    (conv => whnf); (try (refine ⟨(rfl : (_ : Heap) = _), ?_⟩; (conv => whnf)))
    refine ⟨fun h1 => ?_, fun h1 => ?_⟩
    · (conv => whnf); (try (refine ⟨(rfl : (_ : Heap) = _), ?_⟩; (conv => whnf)))
      refine ⟨by omega, by rw [toNat_cast]; exact hk, ?_⟩
      (conv => whnf); (try (refine ⟨(rfl : (_ : Heap) = _), ?_⟩; (conv => whnf)))
      rw [toNat_cast, Nat.zero_add]
      refine ⟨_, hg, Nat.le_of_ble_eq_true rfl, ?_⟩
      (conv => whnf); (try (refine ⟨(rfl : (_ : Heap) = _), ?_⟩; (conv => whnf)))
      refine ⟨fun h2 => ?_, fun h2 => ?_⟩
      · (conv => whnf); (try (refine ⟨(rfl : (_ : Heap) = _), ?_⟩; (conv => whnf)))
        refine .inr ⟨by simp, ?_⟩
        conv => whnf
        have e : placeI l t o = (k : Int) := by unfold placeI; rw [place_at hk hr (by simpa using h1) (by simpa using h2)]
        rw [e]
        exact ⟨.inl rfl, _, .refl _, rfl, rfl⟩
      · (conv => whnf); (try (refine ⟨(rfl : (_ : Heap) = _), ?_⟩; (conv => whnf)))
        refine .inl ⟨rfl, ?_, fun j h hj => ?_⟩
        · rw [i64_nat (by omega)]
          exact Weak.cov (by (conv => whnf); (repeat (refine ⟨rfl, ?_⟩; (conv => whnf))); exact trivial)
        · by_cases e : j = k
          · subst e; simp at h2; simp [h2]
          · exact hr j h (by omega)
    · (conv => whnf); (try (refine ⟨(rfl : (_ : Heap) = _), ?_⟩; (conv => whnf)))
      refine .inl ⟨rfl, ?_, fun j h hj => ?_⟩
      · rw [i64_nat (by omega)]
        exact Weak.cov (by (conv => whnf); (repeat (refine ⟨rfl, ?_⟩; (conv => whnf))); exact trivial)
      · by_cases e : j = k
        · subst e; simp at h1; simp [h1]
        · exact hr j h (by omega)
  · conv => whnf
    refine ⟨fun h => absurd h (by simp), fun h => ?_⟩
    conv => whnf
    refine ⟨by simp, ?_⟩
    conv => whnf
    have e : placeI l t o = -1 := by unfold placeI; rw [place_no hr]
    rw [e]
    exact ⟨.inl rfl, _, .refl _, rfl, rfl⟩

theorem busy_sound (l : List Cal) (X : Ob) (t : Int) (hl : l.length < 4611686018427387904) :
    SoundAt Tryz.prog 31 [⟨2, 54, 18, (l).map encCal, 0⟩, X] [.sl 0 [] 18 0 l.length false, I t] (Bo (busyV l t)) [⟨2, 54, 18, (l).map encCal, 0⟩, X] := by
  refine SoundAt.of_wpA (fn := Tryz.f31) Tryz.func31 rfl ?_
  have hlm : (l.map encCal).length = l.length := List.length_map ..
  conv => whnf
  refine Loops.seq l.length (fun k => [.sl 0 [] 18 0 l.length false, I t, .junk, .junk, Bo false, I k, .junk, .junk, .junk, .junk, .junk, .junk, .junk, .junk, .junk, .junk, .junk, .junk, .junk, .junk, .junk, .junk, .junk, .junk, .junk, .junk, .junk]) (fun k => [⟨2, 54, 18, (l).map encCal, 0⟩, X]) (fun k => ∀ j, (h : j < l.length) → j < k → ¬ (l[j].thread = t ∧ l[j].to_ < 0)) ?_ (by simp) (fun k hk hr => ?_) (fun hr => ?_)
  · exact Weak.cov (by (conv => whnf); (repeat (refine ⟨rfl, ?_⟩; (conv => whnf))); exact trivial)
  · have hg : (l.map encCal)[k]? = some (encCal l[k]) := by rw [List.getElem?_map, List.getElem?_eq_getElem hk]; rfl
    conv => whnf
    refine ⟨fun _ => ?_, fun h => absurd h (by simp; omega)⟩
    conv => whnf
    refine ⟨by omega, by rw [toNat_cast]; exact hk, ?_⟩
    (conv => whnf); (try (refine ⟨(rfl : (_ : Heap) = _), ?_⟩; (conv => whnf)))
    rw [toNat_cast, Nat.zero_add]
    refine ⟨_, hg, Nat.le_of_ble_eq_true rfl, ?_⟩
    (conv => whnf); (try (refine ⟨(rfl : (_ : Heap) = _), ?_⟩; (conv => whnf)))
    refine ⟨fun h1 => ?_, fun h1 => ?_⟩
    · (conv => whnf); (try (refine ⟨(rfl : (_ : Heap) = _), ?_⟩; (conv => whnf)))
      refine ⟨by omega, by rw [toNat_cast]; exact hk, ?_⟩
      (conv => whnf); (try (refine ⟨(rfl : (_ : Heap) = _), ?_⟩; (conv => whnf)))
      rw [toNat_cast, Nat.zero_add]
      refine ⟨_, hg, Nat.le_of_ble_eq_true rfl, ?_⟩
      (conv => whnf); (try (refine ⟨(rfl : (_ : Heap) = _), ?_⟩; (conv => whnf)))
      refine ⟨fun h2 => ?_, fun h2 => ?_⟩
      · (conv => whnf); (try (refine ⟨(rfl : (_ : Heap) = _), ?_⟩; (conv => whnf)))
        refine .inr ⟨by simp, ?_⟩
        conv => whnf
        rw [busy_at hk (by simpa using h1) (by simpa using h2)]
        exact ⟨.inl rfl, _, .refl _, rfl, rfl⟩
      · (conv => whnf); (try (refine ⟨(rfl : (_ : Heap) = _), ?_⟩; (conv => whnf)))
        refine .inl ⟨rfl, ?_, fun j h hj => ?_⟩
        · rw [i64_nat (by omega)]
          exact Weak.cov (by (conv => whnf); (repeat (refine ⟨rfl, ?_⟩; (conv => whnf))); exact trivial)
        · by_cases e : j = k
          · subst e; simp at h2; simp [h2]
          · exact hr j h (by omega)
    · (conv => whnf); (try (refine ⟨(rfl : (_ : Heap) = _), ?_⟩; (conv => whnf)))
      refine .inl ⟨rfl, ?_, fun j h hj => ?_⟩
      · rw [i64_nat (by omega)]
        exact Weak.cov (by (conv => whnf); (repeat (refine ⟨rfl, ?_⟩; (conv => whnf))); exact trivial)
      · by_cases e : j = k
        · subst e; simp at h1; simp [h1]
        · exact hr j h (by omega)
  · conv => whnf
    refine ⟨fun h => absurd h (by simp), fun h => ?_⟩
    conv => whnf
    refine ⟨by simp, ?_⟩
    conv => whnf
    rw [busy_no hr]
    exact ⟨.inl rfl, _, .refl _, rfl, rfl⟩

theorem place0_sound (t o : Int) : SoundAt Tryz.prog 30 [] [.lst 1 18 [], I t, I o] (I (-1)) [] := by
  refine SoundAt.of_wpA1 (fn := Tryz.f30) Tryz.func30 rfl ?_
  conv => whnf
  refine Loops.seq 0 (fun k => [.lst 1 18 [], I t, I o, .junk, .junk, .junk, I 0, I k, .junk, .junk, .junk, .junk, .junk, .junk, .junk, .junk, .junk, .junk, .junk, .junk, .junk, .junk, .junk, .junk, .junk, .junk, .junk, .junk, .junk, .junk, .junk]) (fun k => []) (fun k => True) ?_ trivial (fun k hk hr => ?_) (fun hr => ?_)
  · exact Weak.cov (by (conv => whnf); (repeat (refine ⟨rfl, ?_⟩; (conv => whnf))); exact trivial)
  · omega
  · conv => whnf
    refine ⟨fun h => absurd h (by decide), fun h => ?_⟩
    conv => whnf
    refine ⟨by simp, ?_⟩
    conv => whnf
    exact ⟨.inl rfl, _, .refl _, rfl⟩
theorem busy0_sound (t : Int) : SoundAt Tryz.prog 31 [] [.lst 1 18 [], I t] (Bo false) [] := by
  refine SoundAt.of_wpA1 (fn := Tryz.f31) Tryz.func31 rfl ?_
  conv => whnf
  refine Loops.seq 0 (fun k => [.lst 1 18 [], I t, .junk, .junk, Bo false, I k, .junk, .junk, .junk, .junk, .junk, .junk, .junk, .junk, .junk, .junk, .junk, .junk, .junk, .junk, .junk, .junk, .junk, .junk, .junk, .junk, .junk]) (fun k => []) (fun k => True) ?_ trivial (fun k hk hr => ?_) (fun hr => ?_)
  · exact Weak.cov (by (conv => whnf); (repeat (refine ⟨rfl, ?_⟩; (conv => whnf))); exact trivial)
  · omega
  · conv => whnf
    refine ⟨fun h => absurd h (by decide), fun h => ?_⟩
    conv => whnf
    refine ⟨by simp, ?_⟩
    conv => whnf
    exact ⟨.inl rfl, _, .refl _, rfl⟩

/-! ### Are two rows the same; is one ahead of another one -/

abbrev aheadV (a b : Cal) : Bool := a.to_ != -1 && decide (a.to_ < b.from_)
end Go.Cal

/- Layer 10 (calls): the document's answer of a trace, walked. -/
namespace Go.Cal
open Go.Ab Go.Proofs Go.Hy
set_option linter.unusedVariables false
set_option maxRecDepth 100000
set_option maxHeartbeats 2000000


def refD (l : List Eve) (k : Nat) : List Cal := (refAt l k).getD []
theorem refAt_none {l : List Eve} {k : Nat} (h : refAt l k = none) : ∀ m, k ≤ m → refAt l m = none := by
  intro m hm
  induction m with
  | zero => (have e : k = 0 := by omega); subst e; exact h
  | succ m ih =>
    rcases Nat.lt_or_ge k (m + 1) with h1 | h1
    · simp only [refAt]; rw [ih (by omega)]; rfl
    · have e : k = m + 1 := by omega
      subst e; exact h
theorem refE_len {b b' : List Cal} {i : Int} {e : Eve} (h : refE b i e = some b') : b'.length ≤ b.length + 1 ∧ 0 < b'.length := by
  unfold refE at h
  split at h
  · split at h
    · cases h
    · cases h; simp
  · split at h
    · cases h
    · rename_i n hp
      obtain ⟨c, hc, _⟩ := place_some hp
      have := (List.getElem?_eq_some_iff.1 hc).1
      split at h
      · cases h
      · cases h; simp; omega
theorem refAt_len {l : List Eve} : ∀ {k : Nat} {b : List Cal}, refAt l k = some b → b.length ≤ k
  | 0, b, h => by cases h; simp
  | k + 1, b, h => by
    simp only [refAt] at h
    cases h1 : refAt l k with
    | none => rw [h1] at h; cases h
    | some b0 =>
      rw [h1] at h
      have h3 := refAt_len h1
      cases h4 : l[k]? with
      | none => rw [h4] at h; cases h
      | some e =>
        rw [h4] at h
        have := refE_len h
        omega


theorem refOf_sound (l : List Eve) (hl : l.length < 900000000000) : SoundAt Tryz.prog 16 [] [lEv l] (tC (refV l)) [] := by
  have hlm : (l.map encEv).length = l.length := List.length_map ..
  refine SoundAt.of_wpA1 (fn := Tryz.f16) Tryz.func16 rfl ?_
  conv => whnf
  refine Loops.seq l.length (fun k => [lEv l, .junk, .lst 1 0 [], I 0, (match k with | 0 => .lst 1 18 [] | j + 1 => .sl 0 [] 18 0 (refD l (j + 1)).length false), I k, .junk, .junk, .junk, .junk, .junk, .junk, .junk, .junk, .junk, .junk, .junk, .junk, .junk, .junk, .junk, .junk, .junk, .junk, .junk, .junk, .junk, .junk, .junk, .junk, .junk, .junk, .junk, .junk, .junk, .junk, .junk, .junk, .junk, .junk, .junk, .junk, .junk, .junk, .junk, .junk, .junk, .junk, .junk, .junk, .junk, .junk, .junk, .junk, .junk, .junk, .junk, .junk, .junk, .junk, .junk, .junk, .junk, .junk, .junk, .junk, .junk, .junk, .junk, .junk, .junk, .junk, .junk, .junk, .junk, .junk, .junk]) (fun k => (match k with | 0 => [] | j + 1 => [⟨2, 54, 18, (refD l (j + 1)).map encCal, 0⟩])) (fun k => ∃ b, refAt l k = some b) ?_ ⟨_, rfl⟩ (fun k hk hr => ?_) (fun hr => ?_)
  · exact Weak.cov (by (conv => whnf); (repeat (refine ⟨rfl, ?_⟩; (conv => whnf))); exact trivial)
  · obtain ⟨b, hb⟩ := hr
    have hg : (l.map encEv)[k]? = some (encEv l[k]) := by rw [List.getElem?_map, List.getElem?_eq_getElem hk]; rfl
    have hgl : l[k]? = some l[k] := List.getElem?_eq_getElem hk
    have hbl := refAt_len hb
    have hnext : refAt l (k + 1) = refE b k l[k] := by simp only [refAt, hb, hgl]; rfl
    have hbad : refE b k l[k] = none → refV l = ([], 11) := fun h => by
      have := refAt_none (l := l) (k := k + 1) (by rw [hnext, h]) l.length (by omega)
      unfold refV; rw [this]
    cases k with
    | zero =>
      cases hb
      dsimp only
      conv => whnf
      refine ⟨fun _ => ?_, fun h => absurd hk (by simp at h; simp [h])⟩
      conv => whnf
      refine ⟨by omega, _, hg, ?_⟩
      (conv => whnf); (try (refine ⟨(rfl : (_ : Heap) = _), ?_⟩; (conv => whnf)))
      refine ⟨_, _, (place0_sound l[0].thread l[0].op).frame rfl _, ?_⟩; (conv => whnf); (try (refine ⟨(rfl : (_ : Heap) = _), ?_⟩; (conv => whnf)))
      by_cases he : l[0].begin_ = true
      rotate_left
      · have he : l[0].begin_ = false := by simpa using he
        rw [hbad (by unfold refE; rw [if_neg (by simp [he])]; rfl)]
        refine ⟨fun h => absurd ((he).symm.trans h : false = true) (by decide), fun _ => ?_⟩; (conv => whnf); (try (refine ⟨(rfl : (_ : Heap) = _), ?_⟩; (conv => whnf)))
        (repeat (first | (refine ⟨fun _ => ?_, fun h => absurd h (by decide)⟩; (conv => whnf); (try (refine ⟨(rfl : (_ : Heap) = _), ?_⟩; (conv => whnf)))) | (refine ⟨fun h => absurd h (by decide), fun _ => ?_⟩; (conv => whnf); (try (refine ⟨(rfl : (_ : Heap) = _), ?_⟩; (conv => whnf))))))
        refine .inr ⟨by simp, ?_⟩
        conv => whnf
        exact ⟨.inl rfl, _, Weak.cell 2 rfl (WC.nil 0 18), rfl⟩
      · refine ⟨fun _ => ?_, fun h => absurd ((he).symm.trans h : true = false) (by decide)⟩; (conv => whnf); (try (refine ⟨(rfl : (_ : Heap) = _), ?_⟩; (conv => whnf)))
        (repeat (first | (refine ⟨fun _ => ?_, fun h => absurd h (by decide)⟩; (conv => whnf); (try (refine ⟨(rfl : (_ : Heap) = _), ?_⟩; (conv => whnf)))) | (refine ⟨fun h => absurd h (by decide), fun _ => ?_⟩; (conv => whnf); (try (refine ⟨(rfl : (_ : Heap) = _), ?_⟩; (conv => whnf))))))
        refine ⟨_, _, (busy0_sound l[0].thread).frame rfl _, ?_⟩; (conv => whnf); (try (refine ⟨(rfl : (_ : Heap) = _), ?_⟩; (conv => whnf)))
        (repeat (first | (refine ⟨fun _ => ?_, fun h => absurd h (by decide)⟩; (conv => whnf); (try (refine ⟨(rfl : (_ : Heap) = _), ?_⟩; (conv => whnf)))) | (refine ⟨fun h => absurd h (by decide), fun _ => ?_⟩; (conv => whnf); (try (refine ⟨(rfl : (_ : Heap) = _), ?_⟩; (conv => whnf))))))
        obtain ⟨l0, hl0⟩ : ∃ l0 : List Cal, l0 = [newCal l[0] ((0 : Nat) : Int)] := ⟨_, rfl⟩
        obtain ⟨c, hce⟩ : ∃ c : Cal, c = newCal l[0] ((0 : Nat) : Int) := ⟨_, rfl⟩
        have hc : l0[0]? = some c := by rw [hl0, hce]; simp
        have hll : l0.length = 0 + 1 := by rw [hl0]; simp
        have hct : c.to_ = -1 := by rw [hce]; rfl
        have hev : refE [] ((0 : Nat) : Int) l[0] = some (l0.modify 0 (markC l[0] ((0 : Nat) : Int))) := by unfold refE; rw [if_pos he, if_neg (by simp [placeV, busyV]), hl0]; (try rfl)
        refine .inr ⟨.inl rfl, by simp [maxLen], by show _ * 144 ≤ _; simp, ?_⟩
        (conv => whnf); (try (refine ⟨(rfl : (_ : Heap) = _), ?_⟩; (conv => whnf)))
        rw [app_nilR (c := newCal l[0] ((0 : Nat) : Int))]
        rotate_left
        · rfl
        rw [← hl0]
        (try rw [show ([] : List (List C)).length = 0 from rfl])
        (repeat (first | (refine ⟨fun _ => ?_, fun h => absurd h (by decide)⟩; (conv => whnf); (try (refine ⟨(rfl : (_ : Heap) = _), ?_⟩; (conv => whnf)))) | (refine ⟨fun h => absurd h (by decide), fun _ => ?_⟩; (conv => whnf); (try (refine ⟨(rfl : (_ : Heap) = _), ?_⟩; (conv => whnf))))))
        refine ⟨by omega, by simp, ?_⟩
        (conv => whnf); (try (refine ⟨(rfl : (_ : Heap) = _), ?_⟩; (conv => whnf)))
        (try rw [toNat_cast])
        (try rw [Nat.zero_add])
        refine ⟨_, get_enc hc, Nat.le_of_ble_eq_true rfl, ?_⟩
        (conv => whnf); (try (refine ⟨(rfl : (_ : Heap) = _), ?_⟩; (conv => whnf)))
        refine ⟨fun h => absurd h (by rw [hct]; decide), fun _ => ?_⟩
        (conv => whnf); (try (refine ⟨(rfl : (_ : Heap) = _), ?_⟩; (conv => whnf)))
        have hfin : ∀ l2 : List Cal, l2 = l0.set 0 (markC l[0] ((0 : Nat) : Int) c) → refD l (0 + 1) = l2 ∧ l2.length = l0.length := fun l2 h2 => by
          subst h2
          refine ⟨?_, by simp⟩
          unfold refD; rw [hnext, hev, modify_at hc]; rfl
        have hex : ∃ b, refAt l (0 + 1) = some b := ⟨_, hnext.trans hev⟩
        refine ⟨fun h4 => ?_, fun h4 => ?_⟩
        · (conv => whnf); (try (refine ⟨(rfl : (_ : Heap) = _), ?_⟩; (conv => whnf)))
          refine ⟨by omega, by simp, ?_⟩; (conv => whnf); (try (refine ⟨(rfl : (_ : Heap) = _), ?_⟩; (conv => whnf))); (try rw [toNat_cast]); (try rw [Nat.zero_add])
          refine ⟨_, get_enc hc, rfl, ?_⟩
          (conv => whnf); (try (refine ⟨(rfl : (_ : Heap) = _), ?_⟩; (conv => whnf)))
          obtain ⟨c1, e1⟩ : ∃ c1 : Cal, c1 = ⟨c.thread, c.op, c.from_, ((0 : Nat) : Int), c.to_, c.answer⟩ := ⟨_, rfl⟩
          rw [set_encR (l := l0) (n := 0) (c := c1)]
          rotate_left
          · subst e1; rfl
          have hc1 := set_get (c1 := c1) hc
          refine ⟨fun h5 => ?_, fun h5 => ?_⟩
          · (conv => whnf); (try (refine ⟨(rfl : (_ : Heap) = _), ?_⟩; (conv => whnf)))
            refine ⟨by omega, by simp, ?_⟩; (conv => whnf); (try (refine ⟨(rfl : (_ : Heap) = _), ?_⟩; (conv => whnf))); (try rw [toNat_cast]); (try rw [Nat.zero_add])
            refine ⟨_, get_enc hc1, rfl, ?_⟩
            (conv => whnf); (try (refine ⟨(rfl : (_ : Heap) = _), ?_⟩; (conv => whnf)))
            obtain ⟨c2, e2⟩ : ∃ c2 : Cal, c2 = ⟨c1.thread, c1.op, c1.from_, c1.point, ((0 : Nat) : Int), c1.answer⟩ := ⟨_, rfl⟩
            rw [set_encR (l := l0.set 0 c1) (n := 0) (c := c2)]
            rotate_left
            · subst e2; rfl
            rw [List.set_set]
            have hc2 := set_get (c1 := c2) hc
            refine ⟨by omega, by simp, ?_⟩; (conv => whnf); (try (refine ⟨(rfl : (_ : Heap) = _), ?_⟩; (conv => whnf))); (try rw [toNat_cast]); (try rw [Nat.zero_add])
            refine ⟨_, get_enc hc2, rfl, ?_⟩
            (conv => whnf); (try (refine ⟨(rfl : (_ : Heap) = _), ?_⟩; (conv => whnf)))
            rw [set_encR (l := l0.set 0 c2) (n := 0) (c := ⟨c2.thread, c2.op, c2.from_, c2.point, c2.to_, l[0].answer⟩)]
            rotate_left
            · rfl
            rw [List.set_set]
            obtain ⟨f1, f2⟩ := hfin (l0.set 0 ⟨c2.thread, c2.op, c2.from_, c2.point, c2.to_, l[0].answer⟩) (by subst e2; subst e1; simp [markC, h4, h5])
            refine .inl ⟨rfl, ?_, hex⟩; (try dsimp only); rw [f1, f2, hll, i64_nat (by omega)]; exact Weak.ren [1] [0, 2, 3, 4, 5] _ _ rfl rfl rfl rfl
          · (conv => whnf); (try (refine ⟨(rfl : (_ : Heap) = _), ?_⟩; (conv => whnf)))
            obtain ⟨f1, f2⟩ := hfin (l0.set 0 c1) (by subst e1; simp [markC, h4, h5])
            refine .inl ⟨rfl, ?_, hex⟩; (try dsimp only); rw [f1, f2, hll, i64_nat (by omega)]; exact Weak.ren [1] [0, 2, 3, 4, 5] _ _ rfl rfl rfl rfl
        · (conv => whnf); (try (refine ⟨(rfl : (_ : Heap) = _), ?_⟩; (conv => whnf)))
          refine ⟨fun h5 => ?_, fun h5 => ?_⟩
          · (conv => whnf); (try (refine ⟨(rfl : (_ : Heap) = _), ?_⟩; (conv => whnf)))
            refine ⟨by omega, by simp, ?_⟩; (conv => whnf); (try (refine ⟨(rfl : (_ : Heap) = _), ?_⟩; (conv => whnf))); (try rw [toNat_cast]); (try rw [Nat.zero_add])
            refine ⟨_, get_enc hc, rfl, ?_⟩
            (conv => whnf); (try (refine ⟨(rfl : (_ : Heap) = _), ?_⟩; (conv => whnf)))
            obtain ⟨c2, e2⟩ : ∃ c2 : Cal, c2 = ⟨c.thread, c.op, c.from_, c.point, ((0 : Nat) : Int), c.answer⟩ := ⟨_, rfl⟩
            rw [set_encR (l := l0) (n := 0) (c := c2)]
            rotate_left
            · subst e2; rfl
            have hc2 := set_get (c1 := c2) hc
            refine ⟨by omega, by simp, ?_⟩; (conv => whnf); (try (refine ⟨(rfl : (_ : Heap) = _), ?_⟩; (conv => whnf))); (try rw [toNat_cast]); (try rw [Nat.zero_add])
            refine ⟨_, get_enc hc2, rfl, ?_⟩
            (conv => whnf); (try (refine ⟨(rfl : (_ : Heap) = _), ?_⟩; (conv => whnf)))
            rw [set_encR (l := l0.set 0 c2) (n := 0) (c := ⟨c2.thread, c2.op, c2.from_, c2.point, c2.to_, l[0].answer⟩)]
            rotate_left
            · rfl
            rw [List.set_set]
            obtain ⟨f1, f2⟩ := hfin (l0.set 0 ⟨c2.thread, c2.op, c2.from_, c2.point, c2.to_, l[0].answer⟩) (by subst e2; simp [markC, h4, h5])
            refine .inl ⟨rfl, ?_, hex⟩; (try dsimp only); rw [f1, f2, hll, i64_nat (by omega)]; exact Weak.ren [1] [0, 2, 3, 4, 5] _ _ rfl rfl rfl rfl
          · (conv => whnf); (try (refine ⟨(rfl : (_ : Heap) = _), ?_⟩; (conv => whnf)))
            obtain ⟨f1, f2⟩ := hfin l0 (by simp only [markC, h4, h5]; exact (set_self hc).symm)
            refine .inl ⟨rfl, ?_, hex⟩; (try dsimp only); rw [f1, f2, hll, i64_nat (by omega)]; exact Weak.ren [1] [0, 2, 3, 4, 5] _ _ rfl rfl rfl rfl
    | succ j =>
      have hD : refD l (j + 1) = b := by unfold refD; rw [hb]; rfl
      have hbm : (b.map encCal).length = b.length := List.length_map ..
      dsimp only
      rw [hD]
      conv => whnf
      refine ⟨fun _ => ?_, fun h => absurd h (by simp; omega)⟩
      conv => whnf
      refine ⟨by omega, _, by rw [toNat_cast]; exact hg, ?_⟩
      (conv => whnf); (try (refine ⟨(rfl : (_ : Heap) = _), ?_⟩; (conv => whnf)))
      refine ⟨_, _, place_sound b _ l[j + 1].thread l[j + 1].op (by omega), ?_⟩
      (conv => whnf); (try (refine ⟨(rfl : (_ : Heap) = _), ?_⟩; (conv => whnf)))
      by_cases he : l[j + 1].begin_ = true
      rotate_left
      · have he : l[j + 1].begin_ = false := by simpa using he
        refine ⟨fun h => absurd ((he).symm.trans h : false = true) (by decide), fun _ => ?_⟩; (conv => whnf); (try (refine ⟨(rfl : (_ : Heap) = _), ?_⟩; (conv => whnf)))
        cases hp : placeV b l[j + 1].thread l[j + 1].op with
        | none =>
          have hpi : placeI b l[j + 1].thread l[j + 1].op = -1 := by unfold placeI; rw [hp]
          rw [hpi, hbad (by unfold refE; rw [if_neg (by simp [he]), hp])]
          (repeat (first | (refine ⟨fun _ => ?_, fun h => absurd h (by decide)⟩; (conv => whnf); (try (refine ⟨(rfl : (_ : Heap) = _), ?_⟩; (conv => whnf)))) | (refine ⟨fun h => absurd h (by decide), fun _ => ?_⟩; (conv => whnf); (try (refine ⟨(rfl : (_ : Heap) = _), ?_⟩; (conv => whnf))))))
          refine .inr ⟨by simp, ?_⟩
          conv => whnf
          exact ⟨.inl rfl, _, Weak.cell 2 rfl (WC.nil 0 18), rfl⟩
        | some n =>
          have hpi : placeI b l[j + 1].thread l[j + 1].op = (n : Int) := by unfold placeI; rw [hp]
          obtain ⟨c, hc, ht, ho⟩ := place_some hp
          have hn := (List.getElem?_eq_some_iff.1 hc).1
          rw [hpi]
          refine ⟨fun h => absurd h (by simp), fun _ => ?_⟩
          (conv => whnf); (try (refine ⟨(rfl : (_ : Heap) = _), ?_⟩; (conv => whnf)))
          refine ⟨by omega, by rw [toNat_cast]; exact hn, ?_⟩
          (conv => whnf); (try (refine ⟨(rfl : (_ : Heap) = _), ?_⟩; (conv => whnf)))
          rw [toNat_cast, Nat.zero_add]
          refine ⟨_, get_enc hc, Nat.le_of_ble_eq_true rfl, ?_⟩
          (conv => whnf); (try (refine ⟨(rfl : (_ : Heap) = _), ?_⟩; (conv => whnf)))
          refine ⟨fun h1 => ?_, fun h1 => ?_⟩
          · rw [hbad (by unfold refE; rw [if_neg (by simp [he]), hp]; dsimp only; rw [hc, if_pos (by simpa using h1)])]
            (conv => whnf); (try (refine ⟨(rfl : (_ : Heap) = _), ?_⟩; (conv => whnf)))
            refine .inr ⟨by simp, ?_⟩
            conv => whnf
            exact ⟨.inl rfl, _, Weak.cell 2 rfl (WC.nil 0 18), rfl⟩
          · (conv => whnf); (try (refine ⟨(rfl : (_ : Heap) = _), ?_⟩; (conv => whnf)))
            have hev : refE b ((j + 1 : Nat) : Int) l[j + 1] = some (b.modify n (markC l[j + 1] ((j + 1 : Nat) : Int))) := by unfold refE; rw [if_neg (by simp [he]), hp]; dsimp only; rw [hc, if_neg (by simpa using h1)]
            have hfin : ∀ l2 : List Cal, l2 = b.set n (markC l[j + 1] ((j + 1 : Nat) : Int) c) → refD l (j + 1 + 1) = l2 ∧ l2.length = b.length := fun l2 h2 => by
              subst h2
              refine ⟨?_, by simp⟩
              unfold refD; rw [hnext, hev, modify_at hc]; rfl
            have hex : ∃ b, refAt l (j + 1 + 1) = some b := ⟨_, hnext.trans hev⟩
            refine ⟨fun h4 => ?_, fun h4 => ?_⟩
            · (conv => whnf); (try (refine ⟨(rfl : (_ : Heap) = _), ?_⟩; (conv => whnf)))
              refine ⟨by omega, by rw [toNat_cast]; simpa using hn, ?_⟩; (conv => whnf); (try (refine ⟨(rfl : (_ : Heap) = _), ?_⟩; (conv => whnf))); (try rw [toNat_cast]); (try rw [Nat.zero_add])
              refine ⟨_, get_enc hc, rfl, ?_⟩
              (conv => whnf); (try (refine ⟨(rfl : (_ : Heap) = _), ?_⟩; (conv => whnf)))
              obtain ⟨c1, e1⟩ : ∃ c1 : Cal, c1 = ⟨c.thread, c.op, c.from_, ((j + 1 : Nat) : Int), c.to_, c.answer⟩ := ⟨_, rfl⟩
              rw [set_encR (l := b) (n := n) (c := c1)]
              rotate_left
              · subst e1; rfl
              have hc1 := set_get (c1 := c1) hc
              refine ⟨fun h5 => ?_, fun h5 => ?_⟩
              · (conv => whnf); (try (refine ⟨(rfl : (_ : Heap) = _), ?_⟩; (conv => whnf)))
                refine ⟨by omega, by rw [toNat_cast]; simpa using hn, ?_⟩; (conv => whnf); (try (refine ⟨(rfl : (_ : Heap) = _), ?_⟩; (conv => whnf))); (try rw [toNat_cast]); (try rw [Nat.zero_add])
                refine ⟨_, get_enc hc1, rfl, ?_⟩
                (conv => whnf); (try (refine ⟨(rfl : (_ : Heap) = _), ?_⟩; (conv => whnf)))
                obtain ⟨c2, e2⟩ : ∃ c2 : Cal, c2 = ⟨c1.thread, c1.op, c1.from_, c1.point, ((j + 1 : Nat) : Int), c1.answer⟩ := ⟨_, rfl⟩
                rw [set_encR (l := b.set n c1) (n := n) (c := c2)]
                rotate_left
                · subst e2; rfl
                rw [List.set_set]
                have hc2 := set_get (c1 := c2) hc
                refine ⟨by omega, by rw [toNat_cast]; simpa using hn, ?_⟩; (conv => whnf); (try (refine ⟨(rfl : (_ : Heap) = _), ?_⟩; (conv => whnf))); (try rw [toNat_cast]); (try rw [Nat.zero_add])
                refine ⟨_, get_enc hc2, rfl, ?_⟩
                (conv => whnf); (try (refine ⟨(rfl : (_ : Heap) = _), ?_⟩; (conv => whnf)))
                rw [set_encR (l := b.set n c2) (n := n) (c := ⟨c2.thread, c2.op, c2.from_, c2.point, c2.to_, l[j + 1].answer⟩)]
                rotate_left
                · rfl
                rw [List.set_set]
                obtain ⟨f1, f2⟩ := hfin (b.set n ⟨c2.thread, c2.op, c2.from_, c2.point, c2.to_, l[j + 1].answer⟩) (by subst e2; subst e1; simp [markC, h4, h5])
                refine .inl ⟨rfl, ?_, hex⟩; (try dsimp only); rw [f1, f2, i64_nat (by omega)]; exact Weak.covD 1 (by (conv => whnf); (repeat (refine ⟨rfl, ?_⟩; (conv => whnf))); exact trivial) rfl rfl rfl rfl rfl
              · (conv => whnf); (try (refine ⟨(rfl : (_ : Heap) = _), ?_⟩; (conv => whnf)))
                obtain ⟨f1, f2⟩ := hfin (b.set n c1) (by subst e1; simp [markC, h4, h5])
                refine .inl ⟨rfl, ?_, hex⟩; (try dsimp only); rw [f1, f2, i64_nat (by omega)]; exact Weak.covD 1 (by (conv => whnf); (repeat (refine ⟨rfl, ?_⟩; (conv => whnf))); exact trivial) rfl rfl rfl rfl rfl
            · (conv => whnf); (try (refine ⟨(rfl : (_ : Heap) = _), ?_⟩; (conv => whnf)))
              refine ⟨fun h5 => ?_, fun h5 => ?_⟩
              · (conv => whnf); (try (refine ⟨(rfl : (_ : Heap) = _), ?_⟩; (conv => whnf)))
                refine ⟨by omega, by rw [toNat_cast]; simpa using hn, ?_⟩; (conv => whnf); (try (refine ⟨(rfl : (_ : Heap) = _), ?_⟩; (conv => whnf))); (try rw [toNat_cast]); (try rw [Nat.zero_add])
                refine ⟨_, get_enc hc, rfl, ?_⟩
                (conv => whnf); (try (refine ⟨(rfl : (_ : Heap) = _), ?_⟩; (conv => whnf)))
                obtain ⟨c2, e2⟩ : ∃ c2 : Cal, c2 = ⟨c.thread, c.op, c.from_, c.point, ((j + 1 : Nat) : Int), c.answer⟩ := ⟨_, rfl⟩
                rw [set_encR (l := b) (n := n) (c := c2)]
                rotate_left
                · subst e2; rfl
                have hc2 := set_get (c1 := c2) hc
                refine ⟨by omega, by rw [toNat_cast]; simpa using hn, ?_⟩; (conv => whnf); (try (refine ⟨(rfl : (_ : Heap) = _), ?_⟩; (conv => whnf))); (try rw [toNat_cast]); (try rw [Nat.zero_add])
                refine ⟨_, get_enc hc2, rfl, ?_⟩
                (conv => whnf); (try (refine ⟨(rfl : (_ : Heap) = _), ?_⟩; (conv => whnf)))
                rw [set_encR (l := b.set n c2) (n := n) (c := ⟨c2.thread, c2.op, c2.from_, c2.point, c2.to_, l[j + 1].answer⟩)]
                rotate_left
                · rfl
                rw [List.set_set]
                obtain ⟨f1, f2⟩ := hfin (b.set n ⟨c2.thread, c2.op, c2.from_, c2.point, c2.to_, l[j + 1].answer⟩) (by subst e2; simp [markC, h4, h5])
                refine .inl ⟨rfl, ?_, hex⟩; (try dsimp only); rw [f1, f2, i64_nat (by omega)]; exact Weak.covD 1 (by (conv => whnf); (repeat (refine ⟨rfl, ?_⟩; (conv => whnf))); exact trivial) rfl rfl rfl rfl rfl
              · (conv => whnf); (try (refine ⟨(rfl : (_ : Heap) = _), ?_⟩; (conv => whnf)))
                obtain ⟨f1, f2⟩ := hfin b (by simp only [markC, h4, h5]; exact (set_self hc).symm)
                refine .inl ⟨rfl, ?_, hex⟩; (try dsimp only); rw [f1, f2, i64_nat (by omega)]; exact Weak.covD 1 (by (conv => whnf); (repeat (refine ⟨rfl, ?_⟩; (conv => whnf))); exact trivial) rfl rfl rfl rfl rfl
      · refine ⟨fun _ => ?_, fun h => absurd ((he).symm.trans h : true = false) (by decide)⟩; (conv => whnf); (try (refine ⟨(rfl : (_ : Heap) = _), ?_⟩; (conv => whnf)))
        cases hp : placeV b l[j + 1].thread l[j + 1].op with
        | some n =>
          have hpi : placeI b l[j + 1].thread l[j + 1].op = (n : Int) := by unfold placeI; rw [hp]
          rw [hpi, hbad (by unfold refE; rw [if_pos he, hp]; rfl)]
          refine ⟨fun _ => ?_, fun h => absurd h (by simp)⟩
          (conv => whnf); (try (refine ⟨(rfl : (_ : Heap) = _), ?_⟩; (conv => whnf)))
          refine .inr ⟨by simp, ?_⟩
          conv => whnf
          exact ⟨.inl rfl, _, Weak.cell 2 rfl (WC.nil 0 18), rfl⟩
        | none =>
          have hpi : placeI b l[j + 1].thread l[j + 1].op = -1 := by unfold placeI; rw [hp]
          rw [hpi]
          (repeat (first | (refine ⟨fun _ => ?_, fun h => absurd h (by decide)⟩; (conv => whnf); (try (refine ⟨(rfl : (_ : Heap) = _), ?_⟩; (conv => whnf)))) | (refine ⟨fun h => absurd h (by decide), fun _ => ?_⟩; (conv => whnf); (try (refine ⟨(rfl : (_ : Heap) = _), ?_⟩; (conv => whnf))))))
          refine ⟨_, _, busy_sound b _ l[j + 1].thread (by omega), ?_⟩
          (conv => whnf); (try (refine ⟨(rfl : (_ : Heap) = _), ?_⟩; (conv => whnf)))
          refine ⟨fun g2 => ?_, fun g2 => ?_⟩
          · rw [hbad (by unfold refE; rw [if_pos he, hp, g2]; rfl)]
            (conv => whnf); (try (refine ⟨(rfl : (_ : Heap) = _), ?_⟩; (conv => whnf)))
            refine .inr ⟨by simp, ?_⟩
            conv => whnf
            exact ⟨.inl rfl, _, Weak.cell 2 rfl (WC.nil 0 18), rfl⟩
          · (conv => whnf); (try (refine ⟨(rfl : (_ : Heap) = _), ?_⟩; (conv => whnf)))
            obtain ⟨l0, hl0⟩ : ∃ l0 : List Cal, l0 = b ++ [newCal l[j + 1] ((j + 1 : Nat) : Int)] := ⟨_, rfl⟩
            obtain ⟨c, hce⟩ : ∃ c : Cal, c = newCal l[j + 1] ((j + 1 : Nat) : Int) := ⟨_, rfl⟩
            have hc : l0[b.length]? = some c := by rw [hl0, hce]; simp
            have hll : l0.length = b.length + 1 := by rw [hl0]; simp
            have hct : c.to_ = -1 := by rw [hce]; rfl
            have hev : refE b ((j + 1 : Nat) : Int) l[j + 1] = some (l0.modify b.length (markC l[j + 1] ((j + 1 : Nat) : Int))) := by unfold refE; rw [if_pos he, if_neg (by rw [hp, g2]; decide), hl0]; (try rfl)
            refine ⟨hbm, enc_own _, by simp [maxLen]; omega, by show _ * 144 ≤ _; simp; omega, ?_⟩
            (conv => whnf); (try (refine ⟨(rfl : (_ : Heap) = _), ?_⟩; (conv => whnf)))
            rw [app_encR (l := b) (c := newCal l[j + 1] ((j + 1 : Nat) : Int))]
            rotate_left
            · rfl
            rw [← hl0]
            refine ⟨fun h => absurd h (by simp), fun _ => ?_⟩
            (conv => whnf); (try (refine ⟨(rfl : (_ : Heap) = _), ?_⟩; (conv => whnf)))
            refine ⟨by omega, by rw [toNat_cast]; simp, ?_⟩
            (conv => whnf); (try (refine ⟨(rfl : (_ : Heap) = _), ?_⟩; (conv => whnf)))
            (try rw [toNat_cast])
            (try rw [Nat.zero_add])
            refine ⟨_, get_enc hc, Nat.le_of_ble_eq_true rfl, ?_⟩
            (conv => whnf); (try (refine ⟨(rfl : (_ : Heap) = _), ?_⟩; (conv => whnf)))
            refine ⟨fun h => absurd h (by rw [hct]; decide), fun _ => ?_⟩
            (conv => whnf); (try (refine ⟨(rfl : (_ : Heap) = _), ?_⟩; (conv => whnf)))
            have hfin : ∀ l2 : List Cal, l2 = l0.set b.length (markC l[j + 1] ((j + 1 : Nat) : Int) c) → refD l (j + 1 + 1) = l2 ∧ l2.length = l0.length := fun l2 h2 => by
              subst h2
              refine ⟨?_, by simp⟩
              unfold refD; rw [hnext, hev, modify_at hc]; rfl
            have hex : ∃ b, refAt l (j + 1 + 1) = some b := ⟨_, hnext.trans hev⟩
            refine ⟨fun h4 => ?_, fun h4 => ?_⟩
            · (conv => whnf); (try (refine ⟨(rfl : (_ : Heap) = _), ?_⟩; (conv => whnf)))
              refine ⟨by omega, by rw [toNat_cast]; simp, ?_⟩; (conv => whnf); (try (refine ⟨(rfl : (_ : Heap) = _), ?_⟩; (conv => whnf))); (try rw [toNat_cast]); (try rw [Nat.zero_add])
              refine ⟨_, get_enc hc, rfl, ?_⟩
              (conv => whnf); (try (refine ⟨(rfl : (_ : Heap) = _), ?_⟩; (conv => whnf)))
              obtain ⟨c1, e1⟩ : ∃ c1 : Cal, c1 = ⟨c.thread, c.op, c.from_, ((j + 1 : Nat) : Int), c.to_, c.answer⟩ := ⟨_, rfl⟩
              rw [set_encR (l := l0) (n := b.length) (c := c1)]
              rotate_left
              · subst e1; rfl
              have hc1 := set_get (c1 := c1) hc
              refine ⟨fun h5 => ?_, fun h5 => ?_⟩
              · (conv => whnf); (try (refine ⟨(rfl : (_ : Heap) = _), ?_⟩; (conv => whnf)))
                refine ⟨by omega, by rw [toNat_cast]; simp, ?_⟩; (conv => whnf); (try (refine ⟨(rfl : (_ : Heap) = _), ?_⟩; (conv => whnf))); (try rw [toNat_cast]); (try rw [Nat.zero_add])
                refine ⟨_, get_enc hc1, rfl, ?_⟩
                (conv => whnf); (try (refine ⟨(rfl : (_ : Heap) = _), ?_⟩; (conv => whnf)))
                obtain ⟨c2, e2⟩ : ∃ c2 : Cal, c2 = ⟨c1.thread, c1.op, c1.from_, c1.point, ((j + 1 : Nat) : Int), c1.answer⟩ := ⟨_, rfl⟩
                rw [set_encR (l := l0.set b.length c1) (n := b.length) (c := c2)]
                rotate_left
                · subst e2; rfl
                rw [List.set_set]
                have hc2 := set_get (c1 := c2) hc
                refine ⟨by omega, by rw [toNat_cast]; simp, ?_⟩; (conv => whnf); (try (refine ⟨(rfl : (_ : Heap) = _), ?_⟩; (conv => whnf))); (try rw [toNat_cast]); (try rw [Nat.zero_add])
                refine ⟨_, get_enc hc2, rfl, ?_⟩
                (conv => whnf); (try (refine ⟨(rfl : (_ : Heap) = _), ?_⟩; (conv => whnf)))
                rw [set_encR (l := l0.set b.length c2) (n := b.length) (c := ⟨c2.thread, c2.op, c2.from_, c2.point, c2.to_, l[j + 1].answer⟩)]
                rotate_left
                · rfl
                rw [List.set_set]
                obtain ⟨f1, f2⟩ := hfin (l0.set b.length ⟨c2.thread, c2.op, c2.from_, c2.point, c2.to_, l[j + 1].answer⟩) (by subst e2; subst e1; simp [markC, h4, h5])
                refine .inl ⟨rfl, ?_, hex⟩; (try dsimp only); rw [f1, f2, hll, i64_nat (by omega)]; exact Weak.ren [2] [0, 2, 3, 4, 5] _ _ rfl rfl rfl rfl
              · (conv => whnf); (try (refine ⟨(rfl : (_ : Heap) = _), ?_⟩; (conv => whnf)))
                obtain ⟨f1, f2⟩ := hfin (l0.set b.length c1) (by subst e1; simp [markC, h4, h5])
                refine .inl ⟨rfl, ?_, hex⟩; (try dsimp only); rw [f1, f2, hll, i64_nat (by omega)]; exact Weak.ren [2] [0, 2, 3, 4, 5] _ _ rfl rfl rfl rfl
            · (conv => whnf); (try (refine ⟨(rfl : (_ : Heap) = _), ?_⟩; (conv => whnf)))
              refine ⟨fun h5 => ?_, fun h5 => ?_⟩
              · (conv => whnf); (try (refine ⟨(rfl : (_ : Heap) = _), ?_⟩; (conv => whnf)))
                refine ⟨by omega, by rw [toNat_cast]; simp, ?_⟩; (conv => whnf); (try (refine ⟨(rfl : (_ : Heap) = _), ?_⟩; (conv => whnf))); (try rw [toNat_cast]); (try rw [Nat.zero_add])
                refine ⟨_, get_enc hc, rfl, ?_⟩
                (conv => whnf); (try (refine ⟨(rfl : (_ : Heap) = _), ?_⟩; (conv => whnf)))
                obtain ⟨c2, e2⟩ : ∃ c2 : Cal, c2 = ⟨c.thread, c.op, c.from_, c.point, ((j + 1 : Nat) : Int), c.answer⟩ := ⟨_, rfl⟩
                rw [set_encR (l := l0) (n := b.length) (c := c2)]
                rotate_left
                · subst e2; rfl
                have hc2 := set_get (c1 := c2) hc
                refine ⟨by omega, by rw [toNat_cast]; simp, ?_⟩; (conv => whnf); (try (refine ⟨(rfl : (_ : Heap) = _), ?_⟩; (conv => whnf))); (try rw [toNat_cast]); (try rw [Nat.zero_add])
                refine ⟨_, get_enc hc2, rfl, ?_⟩
                (conv => whnf); (try (refine ⟨(rfl : (_ : Heap) = _), ?_⟩; (conv => whnf)))
                rw [set_encR (l := l0.set b.length c2) (n := b.length) (c := ⟨c2.thread, c2.op, c2.from_, c2.point, c2.to_, l[j + 1].answer⟩)]
                rotate_left
                · rfl
                rw [List.set_set]
                obtain ⟨f1, f2⟩ := hfin (l0.set b.length ⟨c2.thread, c2.op, c2.from_, c2.point, c2.to_, l[j + 1].answer⟩) (by subst e2; simp [markC, h4, h5])
                refine .inl ⟨rfl, ?_, hex⟩; (try dsimp only); rw [f1, f2, hll, i64_nat (by omega)]; exact Weak.ren [2] [0, 2, 3, 4, 5] _ _ rfl rfl rfl rfl
              · (conv => whnf); (try (refine ⟨(rfl : (_ : Heap) = _), ?_⟩; (conv => whnf)))
                obtain ⟨f1, f2⟩ := hfin l0 (by simp only [markC, h4, h5]; exact (set_self hc).symm)
                refine .inl ⟨rfl, ?_, hex⟩; (try dsimp only); rw [f1, f2, hll, i64_nat (by omega)]; exact Weak.ren [2] [0, 2, 3, 4, 5] _ _ rfl rfl rfl rfl
  · obtain ⟨b, hb⟩ := hr
    have e1 : refV l = (b, 0) := by unfold refV; rw [hb]
    rw [e1]
    cases hN : l.length with
    | zero =>
      rw [hN] at hb
      cases hb
      dsimp only
      conv => whnf
      refine ⟨fun h => absurd h (by simp [List.length_eq_zero_iff.1 hN]), fun _ => ?_⟩
      conv => whnf
      refine ⟨by simp, ?_⟩
      conv => whnf
      exact ⟨.inl rfl, _, Weak.cell 2 rfl (WC.share 1 18 []), rfl⟩
    | succ j =>
      have hD : refD l (j + 1) = b := by unfold refD; rw [← hN, hb]; rfl
      dsimp only
      rw [hD]
      conv => whnf
      refine ⟨fun h => absurd h (by simp [hN]), fun _ => ?_⟩
      conv => whnf
      refine ⟨by simp, ?_⟩
      conv => whnf
      exact ⟨.inl rfl, _, Weak.freezeA 2 rfl rfl (by simp) (fun r hr c hc => by
        obtain ⟨x, _, rfl⟩ := List.mem_map.1 hr
        exact List.all_eq_true.1 (List.all_eq_true.1 (enc_own b) _ hr) c hc), rfl⟩

end Go.Cal

/- Layer 10 (calls): two calls of two threads, walked. -/
namespace Go.Cal
open Go.Ab Go.Proofs Go.Hy
set_option linter.unusedVariables false
set_option maxRecDepth 100000

def sameEV (a b : En) : Bool := a.head == b.head && a.active == b.active && a.next == b.next
abbrev ans4 : Ans := ⟨4, 0, 0, 0, 0, 0, 0, six0⟩
abbrev p0 : Eve := ⟨1, 0, 0, 0, 0, false, 0, true, false, false, ans0⟩
abbrev p1 : Eve := ⟨0, 0, 0, 0, 0, false, 0, true, true, false, ans0⟩
abbrev p2 : Eve := ⟨0, 0, 0, 0, 0, false, 0, false, false, true, ans4⟩
abbrev p3 : Eve := ⟨1, 0, 0, 0, 0, false, 0, false, true, false, ans0⟩
abbrev p4 : Eve := ⟨0, 0, 0, 0, 0, false, 0, true, false, false, ans0⟩
abbrev p5 : Eve := ⟨0, 1, 0, 0, 0, false, 0, true, false, true, ans0⟩
abbrev plainL : List Eve := [p0, p1, p2, p3]

abbrev cA : Cal := ⟨1, 0, 0, 3, -1, ans0⟩
abbrev cB : Cal := ⟨0, 0, 1, 1, 2, ans4⟩
abbrev cD : Cal := ⟨0, 1, 3, -1, 3, ans0⟩
abbrev cA3 : Cal := ⟨1, 0, 0, -1, -1, ans0⟩

theorem of0 : ofV plainL = ([cA, cB], 0) := by kernel_rfl
theorem of1 : ofV [p1, p2, p3] = ([], 11) := by kernel_rfl
theorem of2 : ofV [p0, p1, p2, p4] = ([], 11) := by kernel_rfl
theorem of3 : ofV [p0, p1, p2, p5] = ([cA3, cB, cD], 0) := by kernel_rfl

end Go.Cal

/- Layer 10 (calls): the order of two calls, walked. -/
namespace Go.Cal
open Go.Ab Go.Proofs Go.Hy
set_option linter.unusedVariables false
set_option maxRecDepth 100000


theorem cmp10_sound (X1 X2 X3 X4 : Ob) : SoundAt Tryz.prog 27 [⟨1, 41, 1, [[lCal [cA, cB]]], 0⟩, X1, X2, X3, X4] [I 1, I 0, .ref 0 [] 1 0 0] (I (-1)) [⟨1, 41, 1, [[lCal [cA, cB]]], 0⟩, X1, X2, X3, X4] := by
  refine SoundAt.of_wpA (fn := Tryz.f27) Tryz.func27 rfl ?_
  conv => whnf
  refine ⟨⟨false, [], [], []⟩, by kernel_rfl, ?_⟩; (conv => whnf)
  refine ⟨by decide, _, rfl, ?_⟩
  (conv => whnf); (try (refine ⟨(rfl : (_ : Heap) = _), ?_⟩; (conv => whnf)))
  refine ⟨by decide, _, rfl, ?_⟩
  (conv => whnf); (try (refine ⟨(rfl : (_ : Heap) = _), ?_⟩; (conv => whnf)))
  (repeat (first | (refine ⟨fun _ => ?_, fun h => absurd h (by decide)⟩; (conv => whnf); (try (refine ⟨(rfl : (_ : Heap) = _), ?_⟩; (conv => whnf)))) | (refine ⟨fun h => absurd h (by decide), fun _ => ?_⟩; (conv => whnf); (try (refine ⟨(rfl : (_ : Heap) = _), ?_⟩; (conv => whnf))))))
  exact ⟨.inl rfl, _, .refl _, rfl, rfl⟩

theorem ins0_sound (X : Ob) : SoundAt Tryz.prog 54 [X] [.lst 1 0 [], I 0, I 0, .fn 27 [] [.ref 0 [] 1 0 0]] (.tup []) [X] := by
  refine SoundAt.of_wpA (fn := Tryz.f54) Tryz.func54 rfl ?_
  conv => whnf
  refine .ofN 1 (.step ?_)
  conv => whnf
  (repeat (first | (refine ⟨fun _ => ?_, fun h => absurd h (by decide)⟩; (conv => whnf); (try (refine ⟨(rfl : (_ : Heap) = _), ?_⟩; (conv => whnf)))) | (refine ⟨fun h => absurd h (by decide), fun _ => ?_⟩; (conv => whnf); (try (refine ⟨(rfl : (_ : Heap) = _), ?_⟩; (conv => whnf))))))
  refine .inr ⟨by simp, ?_⟩
  conv => whnf
  exact ⟨.inr rfl, _, .refl _, rfl, rfl⟩
theorem ins2_sound (X1 X2 X3 : Ob) : SoundAt Tryz.prog 54 [⟨1, 41, 1, [[lCal [cA, cB]]], 0⟩, X1, X2, X3, ⟨2, 3, 1, ([0, 1] : List Int).map encI, 0⟩] [.sl 4 [] 1 0 2 false, I 0, I 2, .fn 27 [] [.ref 0 [] 1 0 0]] (.tup []) [⟨1, 41, 1, [[lCal [cA, cB]]], 0⟩, X1, X2, X3, ⟨2, 3, 1, ([1, 0] : List Int).map encI, 0⟩] := by
  refine SoundAt.of_wpA (fn := Tryz.f54) Tryz.func54 rfl ?_
  conv => whnf
  refine .ofN 2 (.step ?_)
  conv => whnf
  (repeat (first | (refine ⟨fun _ => ?_, fun h => absurd h (by decide)⟩; (conv => whnf); (try (refine ⟨(rfl : (_ : Heap) = _), ?_⟩; (conv => whnf)))) | (refine ⟨fun h => absurd h (by decide), fun _ => ?_⟩; (conv => whnf); (try (refine ⟨(rfl : (_ : Heap) = _), ?_⟩; (conv => whnf))))))
  refine .ofN 2 (.step ?_)
  conv => whnf
  (repeat (first | (refine ⟨fun _ => ?_, fun h => absurd h (by decide)⟩; (conv => whnf); (try (refine ⟨(rfl : (_ : Heap) = _), ?_⟩; (conv => whnf)))) | (refine ⟨fun h => absurd h (by decide), fun _ => ?_⟩; (conv => whnf); (try (refine ⟨(rfl : (_ : Heap) = _), ?_⟩; (conv => whnf))))))
  refine ⟨⟨false, [], [], []⟩, by kernel_rfl, ?_⟩; (conv => whnf)
  (repeat (first | (refine ⟨fun _ => ?_, fun h => absurd h (by decide)⟩; (conv => whnf); (try (refine ⟨(rfl : (_ : Heap) = _), ?_⟩; (conv => whnf)))) | (refine ⟨fun h => absurd h (by decide), fun _ => ?_⟩; (conv => whnf); (try (refine ⟨(rfl : (_ : Heap) = _), ?_⟩; (conv => whnf))))))
  refine ⟨by decide, by decide, ?_⟩
  (conv => whnf); (try (refine ⟨(rfl : (_ : Heap) = _), ?_⟩; (conv => whnf)))
  refine ⟨_, rfl, Nat.le_of_ble_eq_true rfl, ?_⟩
  (conv => whnf); (try (refine ⟨(rfl : (_ : Heap) = _), ?_⟩; (conv => whnf)))
  refine ⟨by decide, by decide, ?_⟩
  (conv => whnf); (try (refine ⟨(rfl : (_ : Heap) = _), ?_⟩; (conv => whnf)))
  refine ⟨_, rfl, Nat.le_of_ble_eq_true rfl, ?_⟩
  (conv => whnf); (try (refine ⟨(rfl : (_ : Heap) = _), ?_⟩; (conv => whnf)))
  refine ⟨_, _, cmp10_sound X1 X2 X3 _, ?_⟩
  (conv => whnf); (try (refine ⟨(rfl : (_ : Heap) = _), ?_⟩; (conv => whnf)))
  (repeat (first | (refine ⟨fun _ => ?_, fun h => absurd h (by decide)⟩; (conv => whnf); (try (refine ⟨(rfl : (_ : Heap) = _), ?_⟩; (conv => whnf)))) | (refine ⟨fun h => absurd h (by decide), fun _ => ?_⟩; (conv => whnf); (try (refine ⟨(rfl : (_ : Heap) = _), ?_⟩; (conv => whnf))))))
  refine ⟨⟨false, [], [], []⟩, by kernel_rfl, ?_⟩; (conv => whnf)
  refine ⟨by decide, by decide, ?_⟩
  (conv => whnf); (try (refine ⟨(rfl : (_ : Heap) = _), ?_⟩; (conv => whnf)))
  refine ⟨_, rfl, Nat.le_of_ble_eq_true rfl, ?_⟩
  (conv => whnf); (try (refine ⟨(rfl : (_ : Heap) = _), ?_⟩; (conv => whnf)))
  refine ⟨by decide, by decide, ?_⟩
  (conv => whnf); (try (refine ⟨(rfl : (_ : Heap) = _), ?_⟩; (conv => whnf)))
  refine ⟨_, rfl, Nat.le_of_ble_eq_true rfl, ?_⟩
  (conv => whnf); (try (refine ⟨(rfl : (_ : Heap) = _), ?_⟩; (conv => whnf)))
  refine ⟨by decide, by decide, ?_⟩
  (conv => whnf); (try (refine ⟨(rfl : (_ : Heap) = _), ?_⟩; (conv => whnf)))
  refine ⟨_, rfl, rfl, ?_⟩
  (conv => whnf); (try (refine ⟨(rfl : (_ : Heap) = _), ?_⟩; (conv => whnf)))
  refine ⟨by decide, by decide, ?_⟩
  (conv => whnf); (try (refine ⟨(rfl : (_ : Heap) = _), ?_⟩; (conv => whnf)))
  refine ⟨_, rfl, rfl, ?_⟩
  (conv => whnf); (try (refine ⟨(rfl : (_ : Heap) = _), ?_⟩; (conv => whnf)))
  refine .inl ⟨rfl, .step ?_⟩
  conv => whnf
  refine ⟨⟨false, [], [], []⟩, by kernel_rfl, ?_⟩; (conv => whnf)
  (repeat (first | (refine ⟨fun _ => ?_, fun h => absurd h (by decide)⟩; (conv => whnf); (try (refine ⟨(rfl : (_ : Heap) = _), ?_⟩; (conv => whnf)))) | (refine ⟨fun h => absurd h (by decide), fun _ => ?_⟩; (conv => whnf); (try (refine ⟨(rfl : (_ : Heap) = _), ?_⟩; (conv => whnf))))))
  refine .inr ⟨by simp, ?_⟩
  conv => whnf
  refine .inl ⟨rfl, .step ?_⟩
  conv => whnf
  (repeat (first | (refine ⟨fun _ => ?_, fun h => absurd h (by decide)⟩; (conv => whnf); (try (refine ⟨(rfl : (_ : Heap) = _), ?_⟩; (conv => whnf)))) | (refine ⟨fun h => absurd h (by decide), fun _ => ?_⟩; (conv => whnf); (try (refine ⟨(rfl : (_ : Heap) = _), ?_⟩; (conv => whnf))))))
  refine .inr ⟨by simp, ?_⟩
  conv => whnf
  exact ⟨.inr rfl, _, .refl _, rfl, rfl⟩

theorem stable0_sound (X : Ob) : SoundAt Tryz.prog 37 [X] [.lst 1 0 [], I 0, .fn 27 [] [.ref 0 [] 1 0 0]] (.tup []) [X] := by
  refine SoundAt.of_wpA (fn := Tryz.f37) Tryz.func37 rfl ?_
  conv => whnf
  refine .ofN 1 (.step ?_)
  conv => whnf
  (repeat (first | (refine ⟨fun _ => ?_, fun h => absurd h (by decide)⟩; (conv => whnf); (try (refine ⟨(rfl : (_ : Heap) = _), ?_⟩; (conv => whnf)))) | (refine ⟨fun h => absurd h (by decide), fun _ => ?_⟩; (conv => whnf); (try (refine ⟨(rfl : (_ : Heap) = _), ?_⟩; (conv => whnf))))))
  refine .inr ⟨by simp, ?_⟩
  conv => whnf
  refine ⟨_, _, ins0_sound X, ?_⟩
  (conv => whnf); (try (refine ⟨(rfl : (_ : Heap) = _), ?_⟩; (conv => whnf)))
  refine .ofN 1 (.step ?_)
  conv => whnf
  (repeat (first | (refine ⟨fun _ => ?_, fun h => absurd h (by decide)⟩; (conv => whnf); (try (refine ⟨(rfl : (_ : Heap) = _), ?_⟩; (conv => whnf)))) | (refine ⟨fun h => absurd h (by decide), fun _ => ?_⟩; (conv => whnf); (try (refine ⟨(rfl : (_ : Heap) = _), ?_⟩; (conv => whnf))))))
  refine .inr ⟨by simp, ?_⟩
  conv => whnf
  exact ⟨.inr rfl, _, .refl _, rfl, rfl⟩
theorem sort0_sound (X : Ob) : SoundAt Tryz.prog 26 [X] [.lst 1 0 [], .fn 27 [] [.ref 0 [] 1 0 0]] (.tup []) [X] := by
  refine SoundAt.of_wpA (fn := Tryz.f26) Tryz.func26 rfl ?_
  conv => whnf
  refine ⟨_, _, stable0_sound X, ?_⟩
  (conv => whnf); (try (refine ⟨(rfl : (_ : Heap) = _), ?_⟩; (conv => whnf)))
  exact ⟨.inr rfl, _, .refl _, rfl, rfl⟩

theorem order0_sound : SoundAt Tryz.prog 14 [] [.lst 1 0 []] (.lst 1 0 []) [] := by
  refine SoundAt.of_wpA1 (fn := Tryz.f14) Tryz.func14 rfl ?_
  conv => whnf
  refine .ofN 1 (.step ?_)
  conv => whnf
  (repeat (first | (refine ⟨fun _ => ?_, fun h => absurd h (by decide)⟩; (conv => whnf); (try (refine ⟨(rfl : (_ : Heap) = _), ?_⟩; (conv => whnf)))) | (refine ⟨fun h => absurd h (by decide), fun _ => ?_⟩; (conv => whnf); (try (refine ⟨(rfl : (_ : Heap) = _), ?_⟩; (conv => whnf))))))
  refine .inr ⟨by simp, ?_⟩
  conv => whnf
  refine ⟨_, _, sort0_sound _, ?_⟩
  (conv => whnf); (try (refine ⟨(rfl : (_ : Heap) = _), ?_⟩; (conv => whnf)))
  exact ⟨.inl rfl, _, .refl _, rfl⟩

theorem stable2_sound (X1 X2 X3 : Ob) : SoundAt Tryz.prog 37 [⟨1, 41, 1, [[lCal [cA, cB]]], 0⟩, X1, X2, X3, ⟨2, 3, 1, ([0, 1] : List Int).map encI, 0⟩] [.sl 4 [] 1 0 2 false, I 2, .fn 27 [] [.ref 0 [] 1 0 0]] (.tup []) [⟨1, 41, 1, [[lCal [cA, cB]]], 0⟩, X1, X2, X3, ⟨2, 3, 1, ([1, 0] : List Int).map encI, 0⟩] := by
  refine SoundAt.of_wpA (fn := Tryz.f37) Tryz.func37 rfl ?_
  conv => whnf
  refine .ofN 1 (.step ?_)
  conv => whnf
  (repeat (first | (refine ⟨fun _ => ?_, fun h => absurd h (by decide)⟩; (conv => whnf); (try (refine ⟨(rfl : (_ : Heap) = _), ?_⟩; (conv => whnf)))) | (refine ⟨fun h => absurd h (by decide), fun _ => ?_⟩; (conv => whnf); (try (refine ⟨(rfl : (_ : Heap) = _), ?_⟩; (conv => whnf))))))
  refine .inr ⟨by simp, ?_⟩
  conv => whnf
  refine ⟨_, _, ins2_sound X1 X2 X3, ?_⟩
  (conv => whnf); (try (refine ⟨(rfl : (_ : Heap) = _), ?_⟩; (conv => whnf)))
  refine .ofN 1 (.step ?_)
  conv => whnf
  (repeat (first | (refine ⟨fun _ => ?_, fun h => absurd h (by decide)⟩; (conv => whnf); (try (refine ⟨(rfl : (_ : Heap) = _), ?_⟩; (conv => whnf)))) | (refine ⟨fun h => absurd h (by decide), fun _ => ?_⟩; (conv => whnf); (try (refine ⟨(rfl : (_ : Heap) = _), ?_⟩; (conv => whnf))))))
  refine .inr ⟨by simp, ?_⟩
  conv => whnf
  exact ⟨.inr rfl, _, .refl _, rfl, rfl⟩
theorem sort2_sound (X1 X2 X3 : Ob) : SoundAt Tryz.prog 26 [⟨1, 41, 1, [[lCal [cA, cB]]], 0⟩, X1, X2, X3, ⟨2, 3, 1, ([0, 1] : List Int).map encI, 0⟩] [.sl 4 [] 1 0 2 false, .fn 27 [] [.ref 0 [] 1 0 0]] (.tup []) [⟨1, 41, 1, [[lCal [cA, cB]]], 0⟩, X1, X2, X3, ⟨2, 3, 1, ([1, 0] : List Int).map encI, 0⟩] := by
  refine SoundAt.of_wpA (fn := Tryz.f26) Tryz.func26 rfl ?_
  conv => whnf
  refine ⟨_, _, stable2_sound X1 X2 X3, ?_⟩
  (conv => whnf); (try (refine ⟨(rfl : (_ : Heap) = _), ?_⟩; (conv => whnf)))
  exact ⟨.inr rfl, _, .refl _, rfl, rfl⟩

theorem order2_sound : SoundAt Tryz.prog 14 [] [lCal [cA, cB]] (lI [1, 0]) [] := by
  refine SoundAt.of_wpA1 (fn := Tryz.f14) Tryz.func14 rfl ?_
  conv => whnf
  refine .ofN 3 (.step ?_)
  conv => whnf
  (repeat (first | (refine ⟨fun _ => ?_, fun h => absurd h (by decide)⟩; (conv => whnf); (try (refine ⟨(rfl : (_ : Heap) = _), ?_⟩; (conv => whnf)))) | (refine ⟨fun h => absurd h (by decide), fun _ => ?_⟩; (conv => whnf); (try (refine ⟨(rfl : (_ : Heap) = _), ?_⟩; (conv => whnf))))))
  refine ⟨by decide, _, rfl, ?_⟩
  (conv => whnf); (try (refine ⟨(rfl : (_ : Heap) = _), ?_⟩; (conv => whnf)))
  (repeat (first | (refine ⟨fun _ => ?_, fun h => absurd h (by decide)⟩; (conv => whnf); (try (refine ⟨(rfl : (_ : Heap) = _), ?_⟩; (conv => whnf)))) | (refine ⟨fun h => absurd h (by decide), fun _ => ?_⟩; (conv => whnf); (try (refine ⟨(rfl : (_ : Heap) = _), ?_⟩; (conv => whnf))))))
  refine .inr ⟨.inl rfl, Nat.le_of_ble_eq_true rfl, Nat.le_of_ble_eq_true rfl, ?_⟩
  (conv => whnf); (try (refine ⟨(rfl : (_ : Heap) = _), ?_⟩; (conv => whnf)))
  refine .inl ⟨rfl, .step ?_⟩
  conv => whnf
  (repeat (first | (refine ⟨fun _ => ?_, fun h => absurd h (by decide)⟩; (conv => whnf); (try (refine ⟨(rfl : (_ : Heap) = _), ?_⟩; (conv => whnf)))) | (refine ⟨fun h => absurd h (by decide), fun _ => ?_⟩; (conv => whnf); (try (refine ⟨(rfl : (_ : Heap) = _), ?_⟩; (conv => whnf))))))
  refine ⟨by decide, _, rfl, ?_⟩
  (conv => whnf); (try (refine ⟨(rfl : (_ : Heap) = _), ?_⟩; (conv => whnf)))
  (repeat (first | (refine ⟨fun _ => ?_, fun h => absurd h (by decide)⟩; (conv => whnf); (try (refine ⟨(rfl : (_ : Heap) = _), ?_⟩; (conv => whnf)))) | (refine ⟨fun h => absurd h (by decide), fun _ => ?_⟩; (conv => whnf); (try (refine ⟨(rfl : (_ : Heap) = _), ?_⟩; (conv => whnf))))))
  refine ⟨rfl, rfl, Nat.le_of_ble_eq_true rfl, Nat.le_of_ble_eq_true rfl, ?_⟩
  (conv => whnf); (try (refine ⟨(rfl : (_ : Heap) = _), ?_⟩; (conv => whnf)))
  refine .inl ⟨rfl, .step ?_⟩
  conv => whnf
  (repeat (first | (refine ⟨fun _ => ?_, fun h => absurd h (by decide)⟩; (conv => whnf); (try (refine ⟨(rfl : (_ : Heap) = _), ?_⟩; (conv => whnf)))) | (refine ⟨fun h => absurd h (by decide), fun _ => ?_⟩; (conv => whnf); (try (refine ⟨(rfl : (_ : Heap) = _), ?_⟩; (conv => whnf))))))
  refine .inr ⟨by simp, ?_⟩
  conv => whnf
  refine ⟨_, _, sort2_sound _ _ _, ?_⟩
  (conv => whnf); (try (refine ⟨(rfl : (_ : Heap) = _), ?_⟩; (conv => whnf)))
  exact ⟨.inl rfl, _, Weak.freezeA 2 rfl rfl (by simp) (fun r hr c hc => List.all_eq_true.1 (List.all_eq_true.1 (rfl : (([1, 0] : List Int).map encI).all (·.all noOwn) = true) _ hr) c hc), rfl⟩

end Go.Cal

