/- Layer 10 (calls): the document's order of calls, walked. -/
import Derived.Test.YtbndjpkncgfpiaaSrtG
namespace Go.Srt
open Go.Ab Go.Proofs Go.Hy Go.Cal
set_option linter.unusedVariables false
set_option linter.unusedSimpArgs false
set_option maxRecDepth 100000
set_option maxHeartbeats 4000000


theorem encI_own2 (l : List Int) (x : Int) : (l.map encI ++ [[I x]]).all (·.all noOwn) = true := by
  have := encI_own' (l ++ [x])
  simpa [encI] using this

/-- What is written so far, when a number is put into a sorted row. -/
def Mid (pt : Int → Int) (x : Int) (L1 L2 M : List Int) (put : Bool) : Prop :=
  (put = false ∧ M = L1 ∧ ∀ y ∈ L1, pt y ≤ pt x) ∨ (put = true ∧ ∃ U V, L1 = U ++ V ∧ M = U ++ x :: V ∧ (∀ y ∈ U, pt y ≤ pt x) ∧ ∀ v ∈ V ++ L2, pt x < pt v)
theorem Mid.len {pt : Int → Int} {x : Int} {L1 L2 M : List Int} {put : Bool} (h : Mid pt x L1 L2 M put) : M.length ≤ L1.length + 1 ∧ L1.length ≤ M.length := by
  rcases h with ⟨_, rfl, _⟩ | ⟨_, U, V, rfl, rfl, _⟩
  · omega
  · simp; omega
theorem Mid.pass {pt : Int → Int} {x y : Int} {L1 L2 M : List Int} {put : Bool} (h : Mid pt x L1 (y :: L2) M put) (hy : put = true ∨ pt y ≤ pt x) : Mid pt x (L1 ++ [y]) L2 (M ++ [y]) put := by
  rcases h with ⟨rfl, rfl, h⟩ | ⟨rfl, U, V, rfl, rfl, h1, h2⟩
  · refine .inl ⟨rfl, rfl, fun z hz => ?_⟩
    rcases List.mem_append.1 hz with hz | hz
    · exact h z hz
    · obtain rfl := List.mem_singleton.1 hz
      rcases hy with hy | hy
      · cases hy
      · exact hy
  · exact .inr ⟨rfl, U, V ++ [y], by simp, by simp, h1, fun v hv => h2 v (by simpa using hv)⟩
theorem Mid.put {pt : Int → Int} {x y : Int} {L1 L2 M : List Int} (h : Mid pt x L1 (y :: L2) M false) (hy : pt x < pt y) (hs : Sd pt (L1 ++ y :: L2)) : Mid pt x (L1 ++ [y]) L2 (M ++ [x] ++ [y]) true := by
  rcases h with ⟨-, rfl, h⟩ | ⟨h, _⟩
  · refine .inr ⟨rfl, M, [y], rfl, by simp, h, fun v hv => ?_⟩
    rcases List.mem_cons.1 hv with rfl | hv
    · exact hy
    · have := ((List.pairwise_cons.1 (List.pairwise_append.1 hs).2.1).1 v hv).le
      omega
  · cases h
theorem Mid.last {pt : Int → Int} {x : Int} {L M : List Int} {put : Bool} (h : Mid pt x L [] M put) (hs : Sd pt L) (hx : ∀ y ∈ L, y < x) : Sd pt (if put then M else M ++ [x]) ∧ (if put then M else M ++ [x]).Perm (L ++ [x]) := by
  rcases h with ⟨rfl, rfl, h⟩ | ⟨rfl, U, V, rfl, rfl, h1, h2⟩
  · refine ⟨List.pairwise_append.2 ⟨hs, by simp, fun y hy z hz => ?_⟩, .refl _⟩
    obtain rfl := List.mem_singleton.1 hz
    have := h y hy
    have := hx y hy
    unfold Le; omega
  · refine ⟨ins_ok hs (fun v hv => h2 v (by simpa using hv)) fun y hy => ?_, ?_⟩
    · have := h1 y hy
      have := hx y (by simp [hy])
      unfold Le; omega
    · refine List.perm_middle.trans ?_
      exact (List.perm_append_comm (l₁ := [x]) (l₂ := U ++ V))

theorem refOrder_sound (cs : List Cal) (hb : cs.length ≤ 1000000) : SoundAt Try.prog 13 [] [lCal cs] (lI (ordV cs)) [] := by
  have hcm : (cs.map encCal).length = cs.length := List.length_map ..
  refine SoundAt.of_wpA1 (fn := Try.f13) Try.func13 rfl ?_
  conv => whnf
  refine Loops.inv (fun q t1 H1 => ∃ (k : Nat), k + q = cs.length ∧ ((idx cs k = [] ∧ t1 = [lCal cs, .junk, .lst 1 0 [], .lst 1 1 [], I k, .junk, .junk, .junk, .junk, .junk, .junk, .junk, .junk, .junk, .junk, .junk, .junk, .junk, .junk, .junk, .junk, .junk, .junk, .junk, .junk, .junk, .junk, .junk, .junk, .junk, .junk, .junk, .junk, .junk, .junk, .junk, .junk, .junk, .junk, .junk, .junk, .junk, .junk, .junk, .junk, .junk, .junk, .junk, .junk, .junk, .junk, .junk, .junk, .junk, .junk, .junk, .junk, .junk, .junk, .junk, .junk, .junk, .junk, .junk, .junk] ∧ H1 = []) ∨ (∃ L, L ≠ [] ∧ Sd (ptV cs) L ∧ L.Perm (idx cs k) ∧ t1 = [lCal cs, .junk, .lst 1 0 [], .sl 0 [] 1 0 L.length false, I k, .junk, .junk, .junk, .junk, .junk, .junk, .junk, .junk, .junk, .junk, .junk, .junk, .junk, .junk, .junk, .junk, .junk, .junk, .junk, .junk, .junk, .junk, .junk, .junk, .junk, .junk, .junk, .junk, .junk, .junk, .junk, .junk, .junk, .junk, .junk, .junk, .junk, .junk, .junk, .junk, .junk, .junk, .junk, .junk, .junk, .junk, .junk, .junk, .junk, .junk, .junk, .junk, .junk, .junk, .junk, .junk, .junk, .junk, .junk, .junk] ∧ H1 = [⟨2, 3, 1, (L).map encI, 0⟩]))) cs.length ?_ ?_
  · exact ⟨[lCal cs, .junk, .lst 1 0 [], .lst 1 1 [], I (0 : Nat), .junk, .junk, .junk, .junk, .junk, .junk, .junk, .junk, .junk, .junk, .junk, .junk, .junk, .junk, .junk, .junk, .junk, .junk, .junk, .junk, .junk, .junk, .junk, .junk, .junk, .junk, .junk, .junk, .junk, .junk, .junk, .junk, .junk, .junk, .junk, .junk, .junk, .junk, .junk, .junk, .junk, .junk, .junk, .junk, .junk, .junk, .junk, .junk, .junk, .junk, .junk, .junk, .junk, .junk, .junk, .junk, .junk, .junk, .junk, .junk], _, Weak.cov (by (conv => whnf); (repeat (refine ⟨rfl, ?_⟩; (conv => whnf))); exact trivial), 0, by omega, .inl ⟨rfl, rfl, rfl⟩⟩
  · rintro q t1 H1 ⟨k, h1, ⟨h2, rfl, rfl⟩ | ⟨L, h2, h3, h4, rfl, rfl⟩⟩
    · conv => whnf
      rw [hcm]
      refine ⟨fun hc => ?_, fun hc => ?_⟩
      · have hk : k < cs.length := by simp at hc; omega
        have hg : (cs.map encCal)[k]? = some (encCal cs[k]) := by rw [List.getElem?_map, List.getElem?_eq_getElem hk]; rfl
        have hp : ptV cs k = cs[k].point := by unfold ptV; rw [Int.toNat_natCast, List.getElem?_eq_getElem hk]; rfl
        (conv => whnf); (try (refine ⟨(rfl : (_ : Heap) = _), ?_⟩; (conv => whnf)))
        refine ⟨by omega, _, by rw [toNat_cast]; exact hg, ?_⟩
        (conv => whnf); (try (refine ⟨(rfl : (_ : Heap) = _), ?_⟩; (conv => whnf)))
        have w1 : IntKind.i64.wrap ((k : Int) + 1) = (k + 1 : Nat) := i64_nat (by omega)
        refine ⟨fun h3 => ?_, fun h3 => ?_⟩
        · have h3 : ptV cs k = -1 := by rw [hp]; simpa using h3
          have e : idx cs (k + 1) = [] := by simp only [idx]; rw [if_pos h3, h2]
          (conv => whnf); (try (refine ⟨(rfl : (_ : Heap) = _), ?_⟩; (conv => whnf)))
          rw [w1]
          refine .inl ⟨rfl, q - 1, [lCal cs, .junk, .lst 1 0 [], .lst 1 1 [], I (k + 1 : Nat), .junk, .junk, .junk, .junk, .junk, .junk, .junk, .junk, .junk, .junk, .junk, .junk, .junk, .junk, .junk, .junk, .junk, .junk, .junk, .junk, .junk, .junk, .junk, .junk, .junk, .junk, .junk, .junk, .junk, .junk, .junk, .junk, .junk, .junk, .junk, .junk, .junk, .junk, .junk, .junk, .junk, .junk, .junk, .junk, .junk, .junk, .junk, .junk, .junk, .junk, .junk, .junk, .junk, .junk, .junk, .junk, .junk, .junk, .junk, .junk], [], by omega, ?_, k + 1, by omega, .inl ⟨e, rfl, rfl⟩⟩
          exact Weak.covD 0 (by (conv => whnf); (repeat (refine ⟨rfl, ?_⟩; (conv => whnf))); exact trivial) rfl rfl rfl rfl rfl
        · have h3 : ptV cs k ≠ -1 := by rw [hp]; simpa using h3
          have e : idx cs (k + 1) = [(k : Int)] := by simp only [idx]; rw [if_neg h3, h2]; rfl
          (conv => whnf); (try (refine ⟨(rfl : (_ : Heap) = _), ?_⟩; (conv => whnf)))
          refine .ofN 1 (.step ?_)
          conv => whnf
          (repeat (first | (refine ⟨fun _ => ?_, fun h => absurd h (by decide)⟩; (conv => whnf); (try (refine ⟨(rfl : (_ : Heap) = _), ?_⟩; (conv => whnf)))) | (refine ⟨fun h => absurd h (by decide), fun _ => ?_⟩; (conv => whnf); (try (refine ⟨(rfl : (_ : Heap) = _), ?_⟩; (conv => whnf))))))
          refine .inr ⟨by simp, ?_⟩
          conv => whnf
          (repeat (first | (refine ⟨fun _ => ?_, fun h => absurd h (by decide)⟩; (conv => whnf); (try (refine ⟨(rfl : (_ : Heap) = _), ?_⟩; (conv => whnf)))) | (refine ⟨fun h => absurd h (by decide), fun _ => ?_⟩; (conv => whnf); (try (refine ⟨(rfl : (_ : Heap) = _), ?_⟩; (conv => whnf))))))
          refine .inr ⟨.inl rfl, Nat.le_of_ble_eq_true rfl, Nat.le_of_ble_eq_true rfl, ?_⟩
          (conv => whnf); (try (refine ⟨(rfl : (_ : Heap) = _), ?_⟩; (conv => whnf)))
          rw [w1]
          refine .inl ⟨rfl, q - 1, [lCal cs, .junk, .lst 1 0 [], .sl 0 [] 1 0 1 false, I (k + 1 : Nat), .junk, .junk, .junk, .junk, .junk, .junk, .junk, .junk, .junk, .junk, .junk, .junk, .junk, .junk, .junk, .junk, .junk, .junk, .junk, .junk, .junk, .junk, .junk, .junk, .junk, .junk, .junk, .junk, .junk, .junk, .junk, .junk, .junk, .junk, .junk, .junk, .junk, .junk, .junk, .junk, .junk, .junk, .junk, .junk, .junk, .junk, .junk, .junk, .junk, .junk, .junk, .junk, .junk, .junk, .junk, .junk, .junk, .junk, .junk, .junk], [⟨2, 3, 1, ([(k : Int)]).map encI, 0⟩], by omega, ?_, k + 1, by omega, .inr ⟨[(k : Int)], by simp, by unfold Sd; simp, by rw [e], rfl, rfl⟩⟩
          exact Weak.cov (by (conv => whnf); (repeat (refine ⟨rfl, ?_⟩; (conv => whnf))); exact trivial)
      · have hk : k = cs.length := by simp at hc; omega
        subst hk
        have e : ordV cs = [] := by have := ordV_perm cs; rw [h2] at this; exact List.perm_nil.1 this
        (conv => whnf); (try (refine ⟨(rfl : (_ : Heap) = _), ?_⟩; (conv => whnf)))
        refine .inr ⟨by simp, ?_⟩
        conv => whnf
        rw [e]
        exact ⟨.inl rfl, _, Weak.cell 2 rfl (WC.share 1 1 _), rfl⟩
    · have hlL : L.length ≤ k := by rw [h4.length_eq]; exact idx_len k
      have hL0 : 0 < L.length := List.length_pos_iff.2 h2
      have hr : k ≤ cs.length → Rg cs.length L := fun h => (idx_rg h).perm h4
      have hlt : ∀ y ∈ L, y < (k : Int) := fun y hy => (idx_mem (h4.mem_iff.1 hy)).2.1
      conv => whnf
      rw [hcm]
      refine ⟨fun hc => ?_, fun hc => ?_⟩
      · have hk : k < cs.length := by simp at hc; omega
        have hg : (cs.map encCal)[k]? = some (encCal cs[k]) := by rw [List.getElem?_map, List.getElem?_eq_getElem hk]; rfl
        have hp : ptV cs k = cs[k].point := by unfold ptV; rw [Int.toNat_natCast, List.getElem?_eq_getElem hk]; rfl
        have hr := hr (by omega)
        (conv => whnf); (try (refine ⟨(rfl : (_ : Heap) = _), ?_⟩; (conv => whnf)))
        refine ⟨by omega, _, by rw [toNat_cast]; exact hg, ?_⟩
        (conv => whnf); (try (refine ⟨(rfl : (_ : Heap) = _), ?_⟩; (conv => whnf)))
        have w1 : IntKind.i64.wrap ((k : Int) + 1) = (k + 1 : Nat) := i64_nat (by omega)
        refine ⟨fun h3' => ?_, fun h3' => ?_⟩
        · have h3' : ptV cs k = -1 := by rw [hp]; simpa using h3'
          have e : idx cs (k + 1) = idx cs k := by simp only [idx]; rw [if_pos h3']
          (conv => whnf); (try (refine ⟨(rfl : (_ : Heap) = _), ?_⟩; (conv => whnf)))
          rw [w1]
          refine .inl ⟨rfl, q - 1, [lCal cs, .junk, .lst 1 0 [], .sl 0 [] 1 0 L.length false, I (k + 1 : Nat), .junk, .junk, .junk, .junk, .junk, .junk, .junk, .junk, .junk, .junk, .junk, .junk, .junk, .junk, .junk, .junk, .junk, .junk, .junk, .junk, .junk, .junk, .junk, .junk, .junk, .junk, .junk, .junk, .junk, .junk, .junk, .junk, .junk, .junk, .junk, .junk, .junk, .junk, .junk, .junk, .junk, .junk, .junk, .junk, .junk, .junk, .junk, .junk, .junk, .junk, .junk, .junk, .junk, .junk, .junk, .junk, .junk, .junk, .junk, .junk], [⟨2, 3, 1, (L).map encI, 0⟩], by omega, ?_, k + 1, by omega, .inr ⟨L, h2, h3, by rw [e]; exact h4, rfl, rfl⟩⟩
          exact Weak.covD 1 (by (conv => whnf); (repeat (refine ⟨rfl, ?_⟩; (conv => whnf))); exact trivial) rfl rfl rfl rfl rfl
        · have h3' : ptV cs k ≠ -1 := by rw [hp]; simpa using h3'
          have e : idx cs (k + 1) = idx cs k ++ [(k : Int)] := by simp only [idx]; rw [if_neg h3']
          (conv => whnf); (try (refine ⟨(rfl : (_ : Heap) = _), ?_⟩; (conv => whnf)))
          refine Loops.inv (fun q t1 H1 => ∃ (j : Nat) (L1 L2 M : List Int) (put : Bool), j + q = L.length ∧ L = L1 ++ L2 ∧ L1.length = j ∧ Mid (ptV cs) k L1 L2 M put ∧
            ((M = [] ∧ t1 = [lCal cs, .junk, .lst 1 0 [], .sl 0 [] 1 0 L.length false, I k, .lst 1 1 [], Bo put, I j, .junk, .junk, .junk, .junk, .junk, .junk, .junk, .junk, .junk, .junk, .junk, .junk, .junk, .junk, .junk, .junk, .junk, .junk, .junk, .junk, .junk, .junk, .junk, .junk, .junk, .junk, .junk, .junk, .junk, .junk, .junk, .junk, .junk, .junk, .junk, .junk, .junk, .junk, .junk, .junk, .junk, .junk, .junk, .junk, .junk, .junk, .junk, .junk, .junk, .junk, .junk, .junk, .junk, .junk, .junk, .junk, .junk] ∧ H1 = [⟨2, 3, 1, (L).map encI, 0⟩]) ∨ (M ≠ [] ∧ t1 = [lCal cs, .junk, .lst 1 0 [], .sl 0 [] 1 0 L.length false, I k, .sl 1 [] 1 0 M.length false, Bo put, I j, .junk, .junk, .junk, .junk, .junk, .junk, .junk, .junk, .junk, .junk, .junk, .junk, .junk, .junk, .junk, .junk, .junk, .junk, .junk, .junk, .junk, .junk, .junk, .junk, .junk, .junk, .junk, .junk, .junk, .junk, .junk, .junk, .junk, .junk, .junk, .junk, .junk, .junk, .junk, .junk, .junk, .junk, .junk, .junk, .junk, .junk, .junk, .junk, .junk, .junk, .junk, .junk, .junk, .junk, .junk, .junk, .junk] ∧ H1 = [⟨2, 3, 1, (L).map encI, 0⟩, ⟨2, 3, 1, (M).map encI, 0⟩]))) L.length ?_ ?_
          · exact ⟨[lCal cs, .junk, .lst 1 0 [], .sl 0 [] 1 0 L.length false, I k, .lst 1 1 [], Bo false, I (0 : Nat), .junk, .junk, .junk, .junk, .junk, .junk, .junk, .junk, .junk, .junk, .junk, .junk, .junk, .junk, .junk, .junk, .junk, .junk, .junk, .junk, .junk, .junk, .junk, .junk, .junk, .junk, .junk, .junk, .junk, .junk, .junk, .junk, .junk, .junk, .junk, .junk, .junk, .junk, .junk, .junk, .junk, .junk, .junk, .junk, .junk, .junk, .junk, .junk, .junk, .junk, .junk, .junk, .junk, .junk, .junk, .junk, .junk], _, Weak.cov (by (conv => whnf); (repeat (refine ⟨rfl, ?_⟩; (conv => whnf))); exact trivial), 0, [], L, [], false, by omega, rfl, rfl, .inl ⟨rfl, rfl, by simp⟩, .inl ⟨rfl, rfl, rfl⟩⟩
          · rintro q' t1 H1 ⟨j, L1, L2, M, put, g1, rfl, g3, g4, ⟨rfl, rfl, rfl⟩ | ⟨g5, rfl, rfl⟩⟩
            · obtain ⟨rfl, rfl⟩ : put = false ∧ L1 = [] := by
                rcases g4 with ⟨h, h', -⟩ | ⟨-, U, V, -, h, -⟩
                · exact ⟨h, h'.symm⟩
                · simp at h
              obtain rfl : j = 0 := by simpa using g3.symm
              obtain ⟨y, L3, rfl⟩ : ∃ x Q, L2 = x :: Q := by cases L2 with | nil => simp at hL0 | cons x Q => exact ⟨x, Q, rfl⟩
              rw [List.nil_append] at *
              have hy := hr y (by simp)
              have hgy : (cs.map encCal)[y.toNat]? = some (encCal cs[y.toNat]) := by rw [List.getElem?_map, List.getElem?_eq_getElem hy.2]; rfl
              have hpy : ptV cs y = cs[y.toNat].point := by unfold ptV; rw [List.getElem?_eq_getElem hy.2]; rfl
              simp only [List.length_cons] at hlL hL0 g1
              conv => whnf
              refine ⟨fun hc => ?_, fun hc => absurd hc (by simp)⟩
              (conv => whnf); (try (refine ⟨(rfl : (_ : Heap) = _), ?_⟩; (conv => whnf)))
              refine ⟨⟨false, [], []⟩, by kernel_rfl, ?_⟩; (conv => whnf)
              refine ⟨by omega, by simp, ?_⟩
              (conv => whnf); (try (refine ⟨(rfl : (_ : Heap) = _), ?_⟩; (conv => whnf)))
              refine ⟨encI y, rfl, Nat.le_of_ble_eq_true rfl, ?_⟩
              (conv => whnf); (try (refine ⟨(rfl : (_ : Heap) = _), ?_⟩; (conv => whnf)))
              refine ⟨hy.1, _, hgy, ?_⟩
              (conv => whnf); (try (refine ⟨(rfl : (_ : Heap) = _), ?_⟩; (conv => whnf)))
              refine ⟨by omega, _, by rw [toNat_cast]; exact hg, ?_⟩
              (conv => whnf); (try (refine ⟨(rfl : (_ : Heap) = _), ?_⟩; (conv => whnf)))
              refine ⟨fun h5 => ?_, fun h5 => ?_⟩
              · have h5 : ptV cs k < ptV cs y := by rw [hp, hpy]; simpa using h5
                have g4' := g4.put h5 h3
                (conv => whnf); (try (refine ⟨(rfl : (_ : Heap) = _), ?_⟩; (conv => whnf)))
                refine .inr ⟨.inl rfl, Nat.le_of_ble_eq_true rfl, Nat.le_of_ble_eq_true rfl, ?_⟩
                (conv => whnf); (try (refine ⟨(rfl : (_ : Heap) = _), ?_⟩; (conv => whnf)))
                refine ⟨by omega, by simp, ?_⟩
                (conv => whnf); (try (refine ⟨(rfl : (_ : Heap) = _), ?_⟩; (conv => whnf)))
                refine ⟨encI y, rfl, Nat.le_of_ble_eq_true rfl, ?_⟩
                (conv => whnf); (try (refine ⟨(rfl : (_ : Heap) = _), ?_⟩; (conv => whnf)))
                refine ⟨rfl, rfl, Nat.le_of_ble_eq_true rfl, Nat.le_of_ble_eq_true rfl, ?_⟩
                (conv => whnf); (try (refine ⟨(rfl : (_ : Heap) = _), ?_⟩; (conv => whnf)))
                exact .inl ⟨rfl, L3.length, [lCal cs, .junk, .lst 1 0 [], .sl 0 [] 1 0 (y :: L3).length false, I k, .sl 1 [] 1 0 2 false, Bo true, I (1 : Nat), .junk, .junk, .junk, .junk, .junk, .junk, .junk, .junk, .junk, .junk, .junk, .junk, .junk, .junk, .junk, .junk, .junk, .junk, .junk, .junk, .junk, .junk, .junk, .junk, .junk, .junk, .junk, .junk, .junk, .junk, .junk, .junk, .junk, .junk, .junk, .junk, .junk, .junk, .junk, .junk, .junk, .junk, .junk, .junk, .junk, .junk, .junk, .junk, .junk, .junk, .junk, .junk, .junk, .junk, .junk, .junk, .junk], [⟨2, 3, 1, (y :: L3).map encI, 0⟩, ⟨2, 3, 1, ([(k : Int), y]).map encI, 0⟩], by omega, Weak.ren [0, 2] [0, 2, 3, 4, 5, 6, 7] _ _ rfl rfl rfl rfl, 1, [y], L3, _, true, by simp; omega, rfl, rfl, g4', .inr ⟨by simp, rfl, rfl⟩⟩
              · have h5 : ptV cs y ≤ ptV cs k := by rw [hp, hpy]; simpa using h5
                have g4' := g4.pass (.inr h5)
                (conv => whnf); (try (refine ⟨(rfl : (_ : Heap) = _), ?_⟩; (conv => whnf)))
                refine ⟨by omega, by simp, ?_⟩
                (conv => whnf); (try (refine ⟨(rfl : (_ : Heap) = _), ?_⟩; (conv => whnf)))
                refine ⟨encI y, rfl, Nat.le_of_ble_eq_true rfl, ?_⟩
                (conv => whnf); (try (refine ⟨(rfl : (_ : Heap) = _), ?_⟩; (conv => whnf)))
                refine .inr ⟨.inl rfl, Nat.le_of_ble_eq_true rfl, Nat.le_of_ble_eq_true rfl, ?_⟩
                (conv => whnf); (try (refine ⟨(rfl : (_ : Heap) = _), ?_⟩; (conv => whnf)))
                exact .inl ⟨rfl, L3.length, [lCal cs, .junk, .lst 1 0 [], .sl 0 [] 1 0 (y :: L3).length false, I k, .sl 1 [] 1 0 1 false, Bo false, I (1 : Nat), .junk, .junk, .junk, .junk, .junk, .junk, .junk, .junk, .junk, .junk, .junk, .junk, .junk, .junk, .junk, .junk, .junk, .junk, .junk, .junk, .junk, .junk, .junk, .junk, .junk, .junk, .junk, .junk, .junk, .junk, .junk, .junk, .junk, .junk, .junk, .junk, .junk, .junk, .junk, .junk, .junk, .junk, .junk, .junk, .junk, .junk, .junk, .junk, .junk, .junk, .junk, .junk, .junk, .junk, .junk, .junk, .junk], [⟨2, 3, 1, (y :: L3).map encI, 0⟩, ⟨2, 3, 1, ([y]).map encI, 0⟩], by omega, Weak.cov (by (conv => whnf); (repeat (refine ⟨rfl, ?_⟩; (conv => whnf))); exact trivial), 1, [y], L3, _, false, by simp; omega, rfl, rfl, g4', .inr ⟨by simp, rfl, rfl⟩⟩
            · have gl := g4.len
              simp only [List.length_append] at hlL hL0 g1
              have w2 : IntKind.i64.wrap ((j : Int) + 1) = (j + 1 : Nat) := i64_nat (by omega)
              conv => whnf
              refine ⟨fun hc => ?_, fun hc => ?_⟩
              · obtain ⟨y, L3, rfl⟩ : ∃ x Q, L2 = x :: Q := by cases L2 with | nil => simp at hc; omega | cons x Q => exact ⟨x, Q, rfl⟩
                have hy := hr y (by simp)
                have hgy : (cs.map encCal)[y.toNat]? = some (encCal cs[y.toNat]) := by rw [List.getElem?_map, List.getElem?_eq_getElem hy.2]; rfl
                have hpy : ptV cs y = cs[y.toNat].point := by unfold ptV; rw [List.getElem?_eq_getElem hy.2]; rfl
                have ej : 0 + ((j : Nat) : Int).toNat = j := by omega
                have gj := get_mid L1 y L3 g3.symm
                simp only [List.length_cons] at hlL hL0 g1
                have em : ∀ (M : List Int) (x : Int), M.map encI ++ [[I x]] = (M ++ [x]).map encI := fun M x => by simp [encI]
                cases put with
                | true =>
                  have g4' := g4.pass (.inl rfl)
                  (conv => whnf); (try (refine ⟨(rfl : (_ : Heap) = _), ?_⟩; (conv => whnf)))
                  refine ⟨⟨false, [], []⟩, by kernel_rfl, ?_⟩; (conv => whnf)
                  (try (repeat (first | (refine ⟨fun _ => ?_, fun h => absurd h (by decide)⟩; (conv => whnf); (try (refine ⟨(rfl : (_ : Heap) = _), ?_⟩; (conv => whnf)))) | (refine ⟨fun h => absurd h (by decide), fun _ => ?_⟩; (conv => whnf); (try (refine ⟨(rfl : (_ : Heap) = _), ?_⟩; (conv => whnf)))))))
                  refine ⟨by omega, by simp only [List.length_append, List.length_cons]; omega, ?_⟩
                  (conv => whnf); (try (refine ⟨(rfl : (_ : Heap) = _), ?_⟩; (conv => whnf)))
                  refine ⟨encI y, by rw [ej]; exact gj, Nat.le_of_ble_eq_true rfl, ?_⟩
                  (conv => whnf); (try (refine ⟨(rfl : (_ : Heap) = _), ?_⟩; (conv => whnf)))
                  refine ⟨List.length_map .., encI_own' _, by simp [maxLen]; omega, by show ((M).length + (0 + 1)) * 8 ≤ _; omega, ?_⟩
                  (conv => whnf); (try (refine ⟨(rfl : (_ : Heap) = _), ?_⟩; (conv => whnf)))
                  rw [w2, em]
                  refine .inl ⟨rfl, L3.length, [lCal cs, .junk, .lst 1 0 [], .sl 0 [] 1 0 (L1 ++ y :: L3).length false, I k, .sl 1 [] 1 0 (M.length + 1) false, Bo true, I (j + 1 : Nat), .junk, .junk, .junk, .junk, .junk, .junk, .junk, .junk, .junk, .junk, .junk, .junk, .junk, .junk, .junk, .junk, .junk, .junk, .junk, .junk, .junk, .junk, .junk, .junk, .junk, .junk, .junk, .junk, .junk, .junk, .junk, .junk, .junk, .junk, .junk, .junk, .junk, .junk, .junk, .junk, .junk, .junk, .junk, .junk, .junk, .junk, .junk, .junk, .junk, .junk, .junk, .junk, .junk, .junk, .junk, .junk, .junk], [⟨2, 3, 1, (L1 ++ y :: L3).map encI, 0⟩, ⟨2, 3, 1, (M ++ [y]).map encI, 0⟩], by omega, Weak.ren [0, 2] [0, 2, 3, 4, 5, 6, 7] _ _ rfl rfl rfl rfl, j + 1, L1 ++ [y], L3, _, true, by simp; omega, by simp, by simp; omega, g4', .inr ⟨by simp, by simp, rfl⟩⟩
                | false =>
                  (conv => whnf); (try (refine ⟨(rfl : (_ : Heap) = _), ?_⟩; (conv => whnf)))
                  refine ⟨⟨false, [], []⟩, by kernel_rfl, ?_⟩; (conv => whnf)
                  (try (repeat (first | (refine ⟨fun _ => ?_, fun h => absurd h (by decide)⟩; (conv => whnf); (try (refine ⟨(rfl : (_ : Heap) = _), ?_⟩; (conv => whnf)))) | (refine ⟨fun h => absurd h (by decide), fun _ => ?_⟩; (conv => whnf); (try (refine ⟨(rfl : (_ : Heap) = _), ?_⟩; (conv => whnf)))))))
                  refine ⟨by omega, by simp only [List.length_append, List.length_cons]; omega, ?_⟩
                  (conv => whnf); (try (refine ⟨(rfl : (_ : Heap) = _), ?_⟩; (conv => whnf)))
                  refine ⟨encI y, by rw [ej]; exact gj, Nat.le_of_ble_eq_true rfl, ?_⟩
                  (conv => whnf); (try (refine ⟨(rfl : (_ : Heap) = _), ?_⟩; (conv => whnf)))
                  refine ⟨hy.1, _, hgy, ?_⟩
                  (conv => whnf); (try (refine ⟨(rfl : (_ : Heap) = _), ?_⟩; (conv => whnf)))
                  refine ⟨by omega, _, by rw [toNat_cast]; exact hg, ?_⟩
                  (conv => whnf); (try (refine ⟨(rfl : (_ : Heap) = _), ?_⟩; (conv => whnf)))
                  refine ⟨fun h5 => ?_, fun h5 => ?_⟩
                  · have h5 : ptV cs k < ptV cs y := by rw [hp, hpy]; simpa using h5
                    have g4' := g4.put h5 h3
                    (conv => whnf); (try (refine ⟨(rfl : (_ : Heap) = _), ?_⟩; (conv => whnf)))
                    refine ⟨List.length_map .., encI_own' _, by simp [maxLen]; omega, by show ((M).length + (0 + 1)) * 8 ≤ _; omega, ?_⟩
                    (conv => whnf); (try (refine ⟨(rfl : (_ : Heap) = _), ?_⟩; (conv => whnf)))
                    refine ⟨by omega, by simp only [List.length_append, List.length_cons]; omega, ?_⟩
                    (conv => whnf); (try (refine ⟨(rfl : (_ : Heap) = _), ?_⟩; (conv => whnf)))
                    refine ⟨encI y, by rw [ej]; exact gj, Nat.le_of_ble_eq_true rfl, ?_⟩
                    (conv => whnf); (try (refine ⟨(rfl : (_ : Heap) = _), ?_⟩; (conv => whnf)))
                    refine ⟨by simp, encI_own2 _ _, by simp [maxLen]; omega, by show (M.length + (0 + 1) + (0 + 1)) * 8 ≤ _; omega, ?_⟩
                    (conv => whnf); (try (refine ⟨(rfl : (_ : Heap) = _), ?_⟩; (conv => whnf)))
                    rw [w2, em, em]
                    refine .inl ⟨rfl, L3.length, [lCal cs, .junk, .lst 1 0 [], .sl 0 [] 1 0 (L1 ++ y :: L3).length false, I k, .sl 1 [] 1 0 (M.length + 1 + 1) false, Bo true, I (j + 1 : Nat), .junk, .junk, .junk, .junk, .junk, .junk, .junk, .junk, .junk, .junk, .junk, .junk, .junk, .junk, .junk, .junk, .junk, .junk, .junk, .junk, .junk, .junk, .junk, .junk, .junk, .junk, .junk, .junk, .junk, .junk, .junk, .junk, .junk, .junk, .junk, .junk, .junk, .junk, .junk, .junk, .junk, .junk, .junk, .junk, .junk, .junk, .junk, .junk, .junk, .junk, .junk, .junk, .junk, .junk, .junk, .junk, .junk], [⟨2, 3, 1, (L1 ++ y :: L3).map encI, 0⟩, ⟨2, 3, 1, (M ++ [(k : Int)] ++ [y]).map encI, 0⟩], by omega, Weak.ren [0, 3] [0, 2, 3, 4, 5, 6, 7] _ _ rfl rfl rfl rfl, j + 1, L1 ++ [y], L3, _, true, by simp; omega, by simp, by simp; omega, g4', .inr ⟨by simp, by simp, rfl⟩⟩
                  · have h5 : ptV cs y ≤ ptV cs k := by rw [hp, hpy]; simpa using h5
                    have g4' := g4.pass (.inr h5)
                    (conv => whnf); (try (refine ⟨(rfl : (_ : Heap) = _), ?_⟩; (conv => whnf)))
                    refine ⟨by omega, by simp only [List.length_append, List.length_cons]; omega, ?_⟩
                    (conv => whnf); (try (refine ⟨(rfl : (_ : Heap) = _), ?_⟩; (conv => whnf)))
                    refine ⟨encI y, by rw [ej]; exact gj, Nat.le_of_ble_eq_true rfl, ?_⟩
                    (conv => whnf); (try (refine ⟨(rfl : (_ : Heap) = _), ?_⟩; (conv => whnf)))
                    refine ⟨List.length_map .., encI_own' _, by simp [maxLen]; omega, by show ((M).length + (0 + 1)) * 8 ≤ _; omega, ?_⟩
                    (conv => whnf); (try (refine ⟨(rfl : (_ : Heap) = _), ?_⟩; (conv => whnf)))
                    rw [w2, em]
                    refine .inl ⟨rfl, L3.length, [lCal cs, .junk, .lst 1 0 [], .sl 0 [] 1 0 (L1 ++ y :: L3).length false, I k, .sl 1 [] 1 0 (M.length + 1) false, Bo false, I (j + 1 : Nat), .junk, .junk, .junk, .junk, .junk, .junk, .junk, .junk, .junk, .junk, .junk, .junk, .junk, .junk, .junk, .junk, .junk, .junk, .junk, .junk, .junk, .junk, .junk, .junk, .junk, .junk, .junk, .junk, .junk, .junk, .junk, .junk, .junk, .junk, .junk, .junk, .junk, .junk, .junk, .junk, .junk, .junk, .junk, .junk, .junk, .junk, .junk, .junk, .junk, .junk, .junk, .junk, .junk, .junk, .junk, .junk, .junk], [⟨2, 3, 1, (L1 ++ y :: L3).map encI, 0⟩, ⟨2, 3, 1, (M ++ [y]).map encI, 0⟩], by omega, Weak.ren [0, 2] [0, 2, 3, 4, 5, 6, 7] _ _ rfl rfl rfl rfl, j + 1, L1 ++ [y], L3, _, false, by simp; omega, by simp, by simp; omega, g4', .inr ⟨by simp, by simp, rfl⟩⟩
              · obtain rfl : L2 = [] := List.eq_nil_of_length_eq_zero (by simp at hc; omega)
                rw [List.append_nil] at h3 h4 hlt
                have g4' := g4.last h3 hlt
                have em : ∀ (M : List Int) (x : Int), M.map encI ++ [[I x]] = (M ++ [x]).map encI := fun M x => by simp [encI]
                have hML : 0 < M.length := List.length_pos_iff.2 g5
                cases put with
                | true =>
                  (conv => whnf); (try (refine ⟨(rfl : (_ : Heap) = _), ?_⟩; (conv => whnf)))
                  refine .inr ⟨by simp, ?_⟩
                  conv => whnf
                  (try (repeat (first | (refine ⟨fun _ => ?_, fun h => absurd h (by decide)⟩; (conv => whnf); (try (refine ⟨(rfl : (_ : Heap) = _), ?_⟩; (conv => whnf)))) | (refine ⟨fun h => absurd h (by decide), fun _ => ?_⟩; (conv => whnf); (try (refine ⟨(rfl : (_ : Heap) = _), ?_⟩; (conv => whnf)))))))
                  rw [w1]
                  refine .inl ⟨rfl, q - 1, [lCal cs, .junk, .lst 1 0 [], .sl 0 [] 1 0 M.length false, I (k + 1 : Nat), .junk, .junk, .junk, .junk, .junk, .junk, .junk, .junk, .junk, .junk, .junk, .junk, .junk, .junk, .junk, .junk, .junk, .junk, .junk, .junk, .junk, .junk, .junk, .junk, .junk, .junk, .junk, .junk, .junk, .junk, .junk, .junk, .junk, .junk, .junk, .junk, .junk, .junk, .junk, .junk, .junk, .junk, .junk, .junk, .junk, .junk, .junk, .junk, .junk, .junk, .junk, .junk, .junk, .junk, .junk, .junk, .junk, .junk, .junk, .junk], [⟨2, 3, 1, (M).map encI, 0⟩], by omega, Weak.ren [1] [0, 2, 3, 4] _ _ rfl rfl rfl rfl, k + 1, by omega, .inr ⟨M, g5, g4'.1, by rw [e]; exact g4'.2.trans (h4.append_right _), rfl, rfl⟩⟩
                | false =>
                  (conv => whnf); (try (refine ⟨(rfl : (_ : Heap) = _), ?_⟩; (conv => whnf)))
                  refine .inr ⟨by simp, ?_⟩
                  conv => whnf
                  (try (repeat (first | (refine ⟨fun _ => ?_, fun h => absurd h (by decide)⟩; (conv => whnf); (try (refine ⟨(rfl : (_ : Heap) = _), ?_⟩; (conv => whnf)))) | (refine ⟨fun h => absurd h (by decide), fun _ => ?_⟩; (conv => whnf); (try (refine ⟨(rfl : (_ : Heap) = _), ?_⟩; (conv => whnf)))))))
                  refine ⟨List.length_map .., encI_own' _, by simp [maxLen]; omega, by show ((M).length + (0 + 1)) * 8 ≤ _; omega, ?_⟩
                  (conv => whnf); (try (refine ⟨(rfl : (_ : Heap) = _), ?_⟩; (conv => whnf)))
                  rw [w1, em]
                  refine .inl ⟨rfl, q - 1, [lCal cs, .junk, .lst 1 0 [], .sl 0 [] 1 0 (M.length + 1) false, I (k + 1 : Nat), .junk, .junk, .junk, .junk, .junk, .junk, .junk, .junk, .junk, .junk, .junk, .junk, .junk, .junk, .junk, .junk, .junk, .junk, .junk, .junk, .junk, .junk, .junk, .junk, .junk, .junk, .junk, .junk, .junk, .junk, .junk, .junk, .junk, .junk, .junk, .junk, .junk, .junk, .junk, .junk, .junk, .junk, .junk, .junk, .junk, .junk, .junk, .junk, .junk, .junk, .junk, .junk, .junk, .junk, .junk, .junk, .junk, .junk, .junk, .junk], [⟨2, 3, 1, (M ++ [(k : Int)]).map encI, 0⟩], by omega, Weak.ren [2] [0, 2, 3, 4] _ _ rfl rfl rfl rfl, k + 1, by omega, .inr ⟨M ++ [(k : Int)], by simp, g4'.1, by rw [e]; exact g4'.2.trans (h4.append_right _), by simp, rfl⟩⟩
      · have hk : k = cs.length := by simp at hc; omega
        subst hk
        have e : ordV cs = L := Sd.ext (ordV_sd cs) h3 ((ordV_perm cs).trans h4.symm)
        (conv => whnf); (try (refine ⟨(rfl : (_ : Heap) = _), ?_⟩; (conv => whnf)))
        refine .inr ⟨by simp, ?_⟩
        conv => whnf
        rw [e]
        exact ⟨.inl rfl, _, Weak.freezeA 2 rfl rfl (by simp) (encI_own _), rfl⟩
end Go.Srt
