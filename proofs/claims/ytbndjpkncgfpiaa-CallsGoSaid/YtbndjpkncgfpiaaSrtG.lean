/- Layer 10 (calls): the order of calls, walked. -/
import Derived.Test.YtbndjpkncgfpiaaSrtF
namespace Go.Srt
open Go.Ab Go.Proofs Go.Hy Go.Cal
set_option linter.unusedVariables false
set_option linter.unusedSimpArgs false
set_option maxRecDepth 100000
set_option maxHeartbeats 4000000

/-- The numbers of the calls that have taken effect, among the first so many. -/
def idx (cs : List Cal) : Nat → List Int
  | 0 => []
  | k + 1 => if ptV cs k = -1 then idx cs k else idx cs k ++ [(k : Int)]

theorem idx_mem {cs : List Cal} : ∀ {k : Nat} {x : Int}, x ∈ idx cs k → 0 ≤ x ∧ x < k ∧ ptV cs x ≠ -1
  | k + 1, x, h => by
    simp only [idx] at h
    split at h
    · obtain ⟨h1, h2, h3⟩ := idx_mem h
      exact ⟨h1, by omega, h3⟩
    · rename_i hp
      rcases List.mem_append.1 h with h | h
      · obtain ⟨h1, h2, h3⟩ := idx_mem h
        exact ⟨h1, by omega, h3⟩
      · obtain rfl := List.mem_singleton.1 h
        exact ⟨by omega, by omega, hp⟩
theorem idx_asc {cs : List Cal} : ∀ (k : Nat), (idx cs k).Pairwise (· < ·)
  | 0 => .nil
  | k + 1 => by
    simp only [idx]
    split
    · exact idx_asc k
    · exact List.pairwise_append.2 ⟨idx_asc k, by simp, fun x hx y hy => by obtain rfl := List.mem_singleton.1 hy; exact (idx_mem hx).2.1⟩
theorem idx_stc (cs : List Cal) (k : Nat) : Stc (ptV cs) (idx cs k) := (idx_asc (cs := cs) k).imp (R := (· < ·)) (S := fun x y => ptV cs x = ptV cs y → x ≤ y) fun h _ => Int.le_of_lt h
theorem idx_len {cs : List Cal} : ∀ (k : Nat), (idx cs k).length ≤ k
  | 0 => Nat.le_refl _
  | k + 1 => by
    simp only [idx]
    have := idx_len (cs := cs) k
    split
    · omega
    · simp; omega
theorem idx_rg {cs : List Cal} {k : Nat} (hk : k ≤ cs.length) : Rg cs.length (idx cs k) := fun x hx => by have := idx_mem hx; omega

/-- The order in which calls take effect. -/
noncomputable def ordV (cs : List Cal) : List Int := Classical.choose (exists_sd (pt := ptV cs) (idx cs cs.length))
theorem ordV_sd (cs : List Cal) : Sd (ptV cs) (ordV cs) := (Classical.choose_spec (exists_sd (pt := ptV cs) (idx cs cs.length))).1
theorem ordV_perm (cs : List Cal) : (ordV cs).Perm (idx cs cs.length) := (Classical.choose_spec (exists_sd (pt := ptV cs) (idx cs cs.length))).2

theorem encI_own (l : List Int) : ∀ r ∈ l.map encI, ∀ c ∈ r, noOwn c = true := by
  intro r hr c hc
  obtain ⟨n, _, rfl⟩ := List.mem_map.1 hr
  simp [encI] at hc
  subst hc; rfl
theorem encI_own' (l : List Int) : (l.map encI).all (·.all noOwn) = true := by
  simp only [List.all_eq_true]
  exact encI_own l


theorem order_sound (cs : List Cal) (hb : cs.length ≤ 1000000) : SoundAt Try.prog 12 [] [lCal cs] (lI (ordV cs)) [] := by
  have hcm : (cs.map encCal).length = cs.length := List.length_map ..
  refine SoundAt.of_wpA1 (fn := Try.f12) Try.func12 rfl ?_
  conv => whnf
  rw [hcm]
  refine Loops.inv (fun q t1 H1 => ∃ (k : Nat), k + q = cs.length ∧ ((idx cs k = [] ∧ t1 = [lCal cs, .ref 0 [] 1 0 0, .lst 1 0 [], .lst 1 0 [], .junk, .junk, lCal cs, I cs.length, I k, .junk, .junk, .junk, .junk, .junk, .junk, .junk, .junk, .junk, .junk, .junk, .junk, .junk, .junk, .junk, .junk] ∧ H1 = [⟨1, 22, 1, [[lCal cs]], 0⟩]) ∨ (idx cs k ≠ [] ∧ t1 = [lCal cs, .ref 0 [] 1 0 0, .lst 1 0 [], .sl 1 [] 1 0 (idx cs k).length false, .junk, .junk, lCal cs, I cs.length, I k, .junk, .junk, .junk, .junk, .junk, .junk, .junk, .junk, .junk, .junk, .junk, .junk, .junk, .junk, .junk, .junk] ∧ H1 = [⟨1, 22, 1, [[lCal cs]], 0⟩, ⟨2, 3, 1, (idx cs k).map encI, 0⟩]))) cs.length ?_ ?_
  · exact ⟨[lCal cs, .ref 0 [] 1 0 0, .lst 1 0 [], .lst 1 0 [], .junk, .junk, lCal cs, I cs.length, I (0 : Nat), .junk, .junk, .junk, .junk, .junk, .junk, .junk, .junk, .junk, .junk, .junk, .junk, .junk, .junk, .junk, .junk], _, Weak.cov (by (conv => whnf); (repeat (refine ⟨rfl, ?_⟩; (conv => whnf))); exact trivial), 0, by omega, .inl ⟨rfl, rfl, rfl⟩⟩
  · rintro q t1 H1 ⟨k, h1, ⟨h2, rfl, rfl⟩ | ⟨h2, rfl, rfl⟩⟩
    · conv => whnf
      refine ⟨fun hc => ?_, fun hc => ?_⟩
      · have hk : k < cs.length := by simp at hc; omega
        have hg : (cs.map encCal)[k]? = some (encCal cs[k]) := by rw [List.getElem?_map, List.getElem?_eq_getElem hk]; rfl
        have hp : ptV cs k = cs[k].point := by unfold ptV; rw [Int.toNat_natCast, List.getElem?_eq_getElem hk]; rfl
        (conv => whnf); (try (refine ⟨(rfl : (_ : Heap) = _), ?_⟩; (conv => whnf)))
        refine ⟨by omega, _, by rw [toNat_cast]; exact hg, ?_⟩
        (conv => whnf); (try (refine ⟨(rfl : (_ : Heap) = _), ?_⟩; (conv => whnf)))
        have w1 : IntKind.i64.wrap ((k : Int) + 1) = (k + 1 : Nat) := i64_nat (by omega)
        refine ⟨fun h3 => ?_, fun h3 => ?_⟩
        · have h3 : ptV cs k ≠ -1 := by rw [hp]; simpa using h3
          have e : idx cs (k + 1) = [(k : Int)] := by simp only [idx]; rw [if_neg h3, h2]; rfl
          (conv => whnf); (try (refine ⟨(rfl : (_ : Heap) = _), ?_⟩; (conv => whnf)))
          refine .inr ⟨.inl rfl, Nat.le_of_ble_eq_true rfl, Nat.le_of_ble_eq_true rfl, ?_⟩
          (conv => whnf); (try (refine ⟨(rfl : (_ : Heap) = _), ?_⟩; (conv => whnf)))
          rw [w1]
          refine .inl ⟨rfl, q - 1, [lCal cs, .ref 0 [] 1 0 0, .lst 1 0 [], .sl 1 [] 1 0 1 false, .junk, .junk, lCal cs, I cs.length, I (k + 1 : Nat), .junk, .junk, .junk, .junk, .junk, .junk, .junk, .junk, .junk, .junk, .junk, .junk, .junk, .junk, .junk, .junk], [⟨1, 22, 1, [[lCal cs]], 0⟩, ⟨2, 3, 1, ([(k : Int)]).map encI, 0⟩], by omega, ?_, k + 1, by omega, .inr ⟨by rw [e]; simp, by rw [e]; rfl, by rw [e]⟩⟩
          exact Weak.ren [0, 2] [0, 1, 2, 3, 6, 7, 8] _ _ rfl rfl rfl rfl
        · have h3 : ptV cs k = -1 := by rw [hp]; simpa using h3
          have e : idx cs (k + 1) = [] := by simp only [idx]; rw [if_pos h3, h2]
          (conv => whnf); (try (refine ⟨(rfl : (_ : Heap) = _), ?_⟩; (conv => whnf)))
          rw [w1]
          refine .inl ⟨rfl, q - 1, [lCal cs, .ref 0 [] 1 0 0, .lst 1 0 [], .lst 1 0 [], .junk, .junk, lCal cs, I cs.length, I (k + 1 : Nat), .junk, .junk, .junk, .junk, .junk, .junk, .junk, .junk, .junk, .junk, .junk, .junk, .junk, .junk, .junk, .junk], [⟨1, 22, 1, [[lCal cs]], 0⟩], by omega, ?_, k + 1, by omega, .inl ⟨e, rfl, rfl⟩⟩
          exact Weak.covD 1 (by (conv => whnf); (repeat (refine ⟨rfl, ?_⟩; (conv => whnf))); exact trivial) rfl rfl rfl rfl rfl
      · have hk : k = cs.length := by simp at hc; omega
        subst hk
        have e : ordV cs = [] := by have := ordV_perm cs; rw [h2] at this; exact List.perm_nil.1 this
        (conv => whnf); (try (refine ⟨(rfl : (_ : Heap) = _), ?_⟩; (conv => whnf)))
        refine .inr ⟨by simp, ?_⟩
        conv => whnf
        refine ⟨_, _, sort0_sound _, ?_⟩
        (conv => whnf); (try (refine ⟨(rfl : (_ : Heap) = _), ?_⟩; (conv => whnf)))
        rw [e]
        exact ⟨.inl rfl, _, Weak.cell 2 rfl (WC.nil 0 1), rfl⟩
    · conv => whnf
      refine ⟨fun hc => ?_, fun hc => ?_⟩
      · have hk : k < cs.length := by simp at hc; omega
        have hg : (cs.map encCal)[k]? = some (encCal cs[k]) := by rw [List.getElem?_map, List.getElem?_eq_getElem hk]; rfl
        have hp : ptV cs k = cs[k].point := by unfold ptV; rw [Int.toNat_natCast, List.getElem?_eq_getElem hk]; rfl
        have hl := idx_len (cs := cs) k
        (conv => whnf); (try (refine ⟨(rfl : (_ : Heap) = _), ?_⟩; (conv => whnf)))
        refine ⟨by omega, _, by rw [toNat_cast]; exact hg, ?_⟩
        (conv => whnf); (try (refine ⟨(rfl : (_ : Heap) = _), ?_⟩; (conv => whnf)))
        have w1 : IntKind.i64.wrap ((k : Int) + 1) = (k + 1 : Nat) := i64_nat (by omega)
        refine ⟨fun h3 => ?_, fun h3 => ?_⟩
        · have h3 : ptV cs k ≠ -1 := by rw [hp]; simpa using h3
          have e : idx cs (k + 1) = idx cs k ++ [(k : Int)] := by simp only [idx]; rw [if_neg h3]
          have el : (idx cs (k + 1)).length = (idx cs k).length + 1 := by rw [e]; simp
          (conv => whnf); (try (refine ⟨(rfl : (_ : Heap) = _), ?_⟩; (conv => whnf)))
          refine ⟨List.length_map .., encI_own' _, by simp [maxLen]; omega, by show ((idx cs k).length + (0 + 1)) * 8 ≤ _; omega, ?_⟩
          (conv => whnf); (try (refine ⟨(rfl : (_ : Heap) = _), ?_⟩; (conv => whnf)))
          rw [w1]
          have em : (idx cs (k + 1)).map encI = (idx cs k).map encI ++ [[I k]] := by rw [e]; simp [encI]
          refine .inl ⟨rfl, q - 1, [lCal cs, .ref 0 [] 1 0 0, .lst 1 0 [], .sl 1 [] 1 0 ((idx cs k).length + 1) false, .junk, .junk, lCal cs, I cs.length, I (k + 1 : Nat), .junk, .junk, .junk, .junk, .junk, .junk, .junk, .junk, .junk, .junk, .junk, .junk, .junk, .junk, .junk, .junk], [⟨1, 22, 1, [[lCal cs]], 0⟩, ⟨2, 3, 1, (idx cs k).map encI ++ [[I k]], 0⟩], by omega, ?_, k + 1, by omega, .inr ⟨by rw [e]; simp, by rw [el], by rw [em]⟩⟩
          exact Weak.ren [0, 3] [0, 1, 2, 3, 6, 7, 8] _ _ rfl rfl rfl rfl
        · have h3 : ptV cs k = -1 := by rw [hp]; simpa using h3
          have e : idx cs (k + 1) = idx cs k := by simp only [idx]; rw [if_pos h3]
          (conv => whnf); (try (refine ⟨(rfl : (_ : Heap) = _), ?_⟩; (conv => whnf)))
          rw [w1]
          refine .inl ⟨rfl, q - 1, [lCal cs, .ref 0 [] 1 0 0, .lst 1 0 [], .sl 1 [] 1 0 (idx cs k).length false, .junk, .junk, lCal cs, I cs.length, I (k + 1 : Nat), .junk, .junk, .junk, .junk, .junk, .junk, .junk, .junk, .junk, .junk, .junk, .junk, .junk, .junk, .junk, .junk], [⟨1, 22, 1, [[lCal cs]], 0⟩, ⟨2, 3, 1, (idx cs k).map encI, 0⟩], by omega, ?_, k + 1, by omega, .inr ⟨by rw [e]; exact h2, by rw [e], by rw [e]⟩⟩
          exact Weak.covD 2 (by (conv => whnf); (repeat (refine ⟨rfl, ?_⟩; (conv => whnf))); exact trivial) rfl rfl rfl rfl rfl
      · have hk : k = cs.length := by simp at hc; omega
        subst hk
        have hl := idx_len (cs := cs) cs.length
        (conv => whnf); (try (refine ⟨(rfl : (_ : Heap) = _), ?_⟩; (conv => whnf)))
        refine .inr ⟨by simp, ?_⟩
        conv => whnf
        refine ⟨_, _, sort_sound cs _ (idx cs cs.length) (ordV cs) rfl (by omega) (idx_rg (Nat.le_refl _)) (idx_stc ..) (ordV_sd cs) (ordV_perm cs), ?_⟩
        (conv => whnf); (try (refine ⟨(rfl : (_ : Heap) = _), ?_⟩; (conv => whnf)))
        exact ⟨.inl rfl, _, Weak.freezeA 2 rfl rfl (by have := (ordV_perm cs).length_eq; simp; omega) (encI_own _), rfl⟩
end Go.Srt
