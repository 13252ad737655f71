/- The stable sort, walked: the insertion sort of a block. -/
import Derived.Test.YtbndjpkncgfpiaaSrtB
namespace Go.Srt
open Go.Ab Go.Proofs Go.Hy Go.Cal
set_option linter.unusedVariables false
set_option linter.unusedSimpArgs false
set_option maxRecDepth 100000
set_option maxHeartbeats 2000000

/-- What stands ahead and is as great is no greater itself: within a row. -/
def Stc (pt : Int → Int) (X : List Int) : Prop := X.Pairwise fun x y => pt x = pt y → x ≤ y
theorem Stc.app {pt : Int → Int} {X Y : List Int} (h : Stc pt (X ++ Y)) : Stc pt X ∧ Stc pt Y ∧ Stb pt X Y := List.pairwise_append.1 h

theorem Rg.perm {n : Nat} {X W : List Int} (h : Rg n X) (hp : W.Perm X) : Rg n W := fun x hx => h x (hp.mem_iff.1 hx)
theorem Rg.app {n : Nat} {X Y : List Int} (h : Rg n (X ++ Y)) : Rg n X ∧ Rg n Y := ⟨fun x hx => h x (List.mem_append.2 (.inl hx)), fun x hx => h x (List.mem_append.2 (.inr hx))⟩
theorem Rg.mk {n : Nat} {X Y : List Int} (h : Rg n X) (h' : Rg n Y) : Rg n (X ++ Y) := fun x hx => (List.mem_append.1 hx).elim (h x) (h' x)

theorem ins_ok {pt : Int → Int} {V1 V2 : List Int} {x : Int} (hs : Sd pt (V1 ++ V2)) (h2 : ∀ v ∈ V2, pt x < pt v) (h1 : ∀ v ∈ V1, Le pt v x) : Sd pt (V1 ++ x :: V2) := by
  obtain ⟨s1, s2, s3⟩ := List.pairwise_append.1 hs
  refine List.pairwise_append.2 ⟨s1, List.pairwise_cons.2 ⟨fun v hv => .inl (h2 v hv), s2⟩, fun u hu v hv => ?_⟩
  rcases List.mem_cons.1 hv with rfl | hv
  · exact h1 u hu
  · exact s3 u hu v hv

theorem cmp_lt (a b : Int) : decide (cmpV a b < 0) = decide (a < b) := by
  unfold cmpV
  split
  · simp [*]
  · split <;> simp [*]


theorem insertion_sound (cs : List Cal) (N : Nat) (A X Z W : List Int) {a b : Nat} (ea : a = A.length) (eb : b = A.length + X.length) (hN : N = (A ++ (X ++ Z)).length) (hb : N ≤ 1000000000) (hr : Rg cs.length X) (hst : Stc (ptV cs) X)
    (hs : Sd (ptV cs) W) (hp : W.Perm X) : SoundAt Try.prog 81 [⟨1, 22, 1, [[lCal cs]], 0⟩, ⟨2, 3, 1, (A ++ (X ++ Z)).map encI, 0⟩] [.sl 1 [] 1 0 N false, I a, I b, .fn 36 [] [.ref 0 [] 1 0 0]] (.tup []) [⟨1, 22, 1, [[lCal cs]], 0⟩, ⟨2, 3, 1, (A ++ (W ++ Z)).map encI, 0⟩] := by
  simp only [List.length_append] at hN
  have w1 : IntKind.i64.wrap ((a : Int) + 1) = (a + 1 : Nat) := i64_nat (by omega)
  refine SoundAt.of_wpA (fn := Try.f81) Try.func81 rfl ?_
  conv => whnf
  rw [w1]
  cases X with
  | nil =>
    obtain rfl : W = [] := List.perm_nil.1 hp
    refine .ofN 1 (.step ?_)
    conv => whnf
    refine ⟨fun h => absurd h (by simp at eb ⊢; omega), fun h => ?_⟩
    (conv => whnf); (try (refine ⟨(rfl : (_ : Heap) = _), ?_⟩; (conv => whnf)))
    refine .inr ⟨by simp, ?_⟩
    conv => whnf
    exact ⟨.inr rfl, _, .refl _, rfl, rfl⟩
  | cons x0 X' =>
    simp only [List.length_cons] at eb hN
    refine Loops.inv (fun q t1 H1 => ∃ (W1 X1 X2 : List Int), x0 :: X' = X1 ++ X2 ∧ X2.length = q ∧ 0 < X1.length ∧ Sd (ptV cs) W1 ∧ W1.Perm X1 ∧ t1 = [.sl 1 [] 1 0 N false, I a, I b, .fn 36 [] [.ref 0 [] 1 0 0], .junk, .junk, .junk, .junk, I (a + X1.length : Nat), .junk, .junk, .junk, .junk, .junk, .junk, .junk, .junk, .junk, .junk, .junk, .junk, .junk, .junk, .junk, .junk, .junk, .junk, .junk, .junk, .junk, .junk, .junk, .junk, .junk, .junk, .junk, .junk, .junk, .junk, .junk, .junk, .junk, .junk, .junk, .junk, .junk, .junk, .junk, .junk, .junk, .junk, .junk, .junk] ∧ H1 = [⟨1, 22, 1, [[lCal cs]], 0⟩, ⟨2, 3, 1, (A ++ (W1 ++ (X2 ++ Z))).map encI, 0⟩]) X'.length ?_ ?_
    · exact ⟨[.sl 1 [] 1 0 N false, I a, I b, .fn 36 [] [.ref 0 [] 1 0 0], .junk, .junk, .junk, .junk, I (a + 1 : Nat), .junk, .junk, .junk, .junk, .junk, .junk, .junk, .junk, .junk, .junk, .junk, .junk, .junk, .junk, .junk, .junk, .junk, .junk, .junk, .junk, .junk, .junk, .junk, .junk, .junk, .junk, .junk, .junk, .junk, .junk, .junk, .junk, .junk, .junk, .junk, .junk, .junk, .junk, .junk, .junk, .junk, .junk, .junk, .junk], _, Weak.cov (by (conv => whnf); (repeat (refine ⟨rfl, ?_⟩; (conv => whnf))); exact trivial), [x0], [x0], X', rfl, rfl, by simp, by unfold Sd; simp, .refl _, rfl, rfl⟩
    · rintro q t1 H1 ⟨W1, X1, X2, h1, h2, h3, h4, h5, rfl, rfl⟩
      have hlX : X1.length + X2.length = X'.length + 1 := by rw [← List.length_append, ← h1]; rfl
      have hlW : W1.length = X1.length := h5.length_eq
      conv => whnf
      refine ⟨fun hc => ?_, fun hc => ?_⟩
      · obtain ⟨x, X3, rfl⟩ : ∃ x Q, X2 = x :: Q := by cases X2 with | nil => simp at hc hlX; omega | cons x Q => exact ⟨x, Q, rfl⟩
        simp only [List.length_cons] at hlX h2
        have hst2 := hst
        rw [h1] at hst2
        obtain ⟨q1, q2, q3⟩ := hst2.app
        have hr2 := hr
        rw [h1] at hr2
        have hx : 0 ≤ x ∧ x.toNat < cs.length := hr2.app.2 x (by simp)
        have hsb : ∀ v ∈ W1, ptV cs v = ptV cs x → v ≤ x := fun v hv => q3 v (h5.mem_iff.1 hv) x (by simp)
        have hrW : Rg cs.length W1 := hr2.app.1.perm h5
        (conv => whnf); (try (refine ⟨(rfl : (_ : Heap) = _), ?_⟩; (conv => whnf)))
        refine Loops.inv (fun q t1 H1 => ∃ (V1 V2 : List Int) (J : Nat), J = a + V1.length ∧ W1 = V1 ++ V2 ∧ V1.length = q ∧ (∀ v ∈ V2, ptV cs x < ptV cs v) ∧ t1 = [.sl 1 [] 1 0 N false, I a, I b, .fn 36 [] [.ref 0 [] 1 0 0], .junk, .junk, .junk, .junk, I (a + X1.length : Nat), I J, .junk, .junk, .junk, .junk, .junk, .junk, .junk, .junk, .junk, .junk, .junk, .junk, .junk, .junk, .junk, .junk, .junk, .junk, .junk, .junk, .junk, .junk, .junk, .junk, .junk, .junk, .junk, .junk, .junk, .junk, .junk, .junk, .junk, .junk, .junk, .junk, .junk, .junk, .junk, .junk, .junk, .junk, .junk] ∧ H1 = [⟨1, 22, 1, [[lCal cs]], 0⟩, ⟨2, 3, 1, (A ++ (V1 ++ x :: (V2 ++ (X3 ++ Z)))).map encI, 0⟩]) W1.length ?_ ?_
        · refine ⟨[.sl 1 [] 1 0 N false, I a, I b, .fn 36 [] [.ref 0 [] 1 0 0], .junk, .junk, .junk, .junk, I (a + X1.length : Nat), I (a + W1.length : Nat), .junk, .junk, .junk, .junk, .junk, .junk, .junk, .junk, .junk, .junk, .junk, .junk, .junk, .junk, .junk, .junk, .junk, .junk, .junk, .junk, .junk, .junk, .junk, .junk, .junk, .junk, .junk, .junk, .junk, .junk, .junk, .junk, .junk, .junk, .junk, .junk, .junk, .junk, .junk, .junk, .junk, .junk, .junk], _, ?_, W1, [], _, rfl, by simp, rfl, by simp, rfl, rfl⟩
          rw [hlW]
          exact Weak.cov (by (conv => whnf); (repeat (refine ⟨rfl, ?_⟩; (conv => whnf))); exact trivial)
        · rintro q' t1 H1 ⟨V1, V2, J, hJ, rfl, g2, g3, rfl, rfl⟩
          simp only [List.length_append] at hlW
          have w3 : IntKind.i64.wrap (((a + X1.length : Nat) : Int) + 1) = (a + (X1.length + 1) : Nat) := by rw [i64_nat (by omega)]; congr 1
          conv => whnf
          refine ⟨⟨false, [], []⟩, by kernel_rfl, ?_⟩; (conv => whnf)
          refine ⟨fun hc2 => ?_, fun hc2 => ?_⟩
          · have hv1 : 0 < V1.length := by simp at hc2; omega
            obtain ⟨V3, v, rfl⟩ : ∃ V3 v, V1 = V3 ++ [v] := ⟨V1.dropLast, V1.getLast (by intro e; subst e; simp at hv1), (List.dropLast_concat_getLast _).symm⟩
            simp only [List.length_append, List.length_cons, List.length_nil] at g2 hlW hv1 hJ
            have w2 : IntKind.i64.wrap ((J : Int) - 1) = (J - 1 : Nat) := by rw [i64_ok (by omega) (by omega)]; omega
            have e1 : A ++ (V3 ++ [v] ++ x :: (V2 ++ (X3 ++ Z))) = (A ++ V3 ++ [v]) ++ x :: (V2 ++ (X3 ++ Z)) := by simp
            have e2 : A ++ (V3 ++ [v] ++ x :: (V2 ++ (X3 ++ Z))) = (A ++ V3) ++ v :: (x :: (V2 ++ (X3 ++ Z))) := by simp
            have hv : 0 ≤ v ∧ v.toNat < cs.length := hrW v (by simp)
            (conv => whnf); (try (refine ⟨(rfl : (_ : Heap) = _), ?_⟩; (conv => whnf)))
            refine ⟨by omega, by omega, ?_⟩
            (conv => whnf); (try (refine ⟨(rfl : (_ : Heap) = _), ?_⟩; (conv => whnf)))
            refine ⟨_, by (rw [Nat.zero_add, Int.toNat_natCast, e1]; exact get_mid _ _ _ (by simp only [List.length_append, List.length_cons, List.length_nil]; omega)), Nat.le_of_ble_eq_true rfl, ?_⟩
            (conv => whnf); (try (refine ⟨(rfl : (_ : Heap) = _), ?_⟩; (conv => whnf)))
            rw [w2]
            refine ⟨by omega, by omega, ?_⟩
            (conv => whnf); (try (refine ⟨(rfl : (_ : Heap) = _), ?_⟩; (conv => whnf)))
            refine ⟨_, by (rw [Nat.zero_add, Int.toNat_natCast, e2]; exact get_mid _ _ _ (by simp only [List.length_append, List.length_cons, List.length_nil]; omega)), Nat.le_of_ble_eq_true rfl, ?_⟩
            (conv => whnf); (try (refine ⟨(rfl : (_ : Heap) = _), ?_⟩; (conv => whnf)))
            refine ⟨_, _, cmp_sound cs _ hx.1 hx.2 hv.1 hv.2, ?_⟩
            (conv => whnf); (try (refine ⟨(rfl : (_ : Heap) = _), ?_⟩; (conv => whnf)))
            refine ⟨fun hc3 => ?_, fun hc3 => ?_⟩
            · rw [cmp_lt] at hc3
              have hc3 : ptV cs x < ptV cs v := by simpa using hc3
              (conv => whnf); (try (refine ⟨(rfl : (_ : Heap) = _), ?_⟩; (conv => whnf)))
              refine ⟨⟨false, [], []⟩, by kernel_rfl, ?_⟩; (conv => whnf)
              rw [w2]
              refine ⟨by omega, by omega, ?_⟩
              (conv => whnf); (try (refine ⟨(rfl : (_ : Heap) = _), ?_⟩; (conv => whnf)))
              refine ⟨_, by (rw [Nat.zero_add, Int.toNat_natCast, e2]; exact get_mid _ _ _ (by simp only [List.length_append, List.length_cons, List.length_nil]; omega)), Nat.le_of_ble_eq_true rfl, ?_⟩
              (conv => whnf); (try (refine ⟨(rfl : (_ : Heap) = _), ?_⟩; (conv => whnf)))
              refine ⟨by omega, by omega, ?_⟩
              (conv => whnf); (try (refine ⟨(rfl : (_ : Heap) = _), ?_⟩; (conv => whnf)))
              refine ⟨_, by (rw [Nat.zero_add, Int.toNat_natCast, e1]; exact get_mid _ _ _ (by simp only [List.length_append, List.length_cons, List.length_nil]; omega)), Nat.le_of_ble_eq_true rfl, ?_⟩
              (conv => whnf); (try (refine ⟨(rfl : (_ : Heap) = _), ?_⟩; (conv => whnf)))
              refine ⟨by omega, by omega, ?_⟩
              (conv => whnf); (try (refine ⟨(rfl : (_ : Heap) = _), ?_⟩; (conv => whnf)))
              refine ⟨_, by (rw [Nat.zero_add, Int.toNat_natCast, e1]; exact get_mid _ _ _ (by simp only [List.length_append, List.length_cons, List.length_nil]; omega)), rfl, ?_⟩
              (conv => whnf); (try (refine ⟨(rfl : (_ : Heap) = _), ?_⟩; (conv => whnf)))
              have n1 : 0 + (J : Int).toNat = (A ++ V3 ++ [v]).length := by simp only [List.length_append, List.length_cons, List.length_nil]; omega
              rw [rset e1 n1]
              have e3 : (A ++ V3 ++ [v]) ++ v :: (V2 ++ (X3 ++ Z)) = (A ++ V3) ++ v :: (v :: (V2 ++ (X3 ++ Z))) := by simp
              have n2 : 0 + ((J - 1 : Nat) : Int).toNat = (A ++ V3).length := by simp only [List.length_append]; omega
              refine ⟨by omega, by omega, ?_⟩
              (conv => whnf); (try (refine ⟨(rfl : (_ : Heap) = _), ?_⟩; (conv => whnf)))
              refine ⟨_, by (rw [Nat.zero_add, Int.toNat_natCast, e3]; exact get_mid _ _ _ (by simp only [List.length_append, List.length_cons, List.length_nil]; omega)), rfl, ?_⟩
              (conv => whnf); (try (refine ⟨(rfl : (_ : Heap) = _), ?_⟩; (conv => whnf)))
              rw [rset e3 n2]
              have e4 : (A ++ V3) ++ x :: (v :: (V2 ++ (X3 ++ Z))) = A ++ (V3 ++ x :: ((v :: V2) ++ (X3 ++ Z))) := by simp
              (try rw [w2])
              rw [e4]
              refine .inl ⟨rfl, V3.length, [.sl 1 [] 1 0 N false, I a, I b, .fn 36 [] [.ref 0 [] 1 0 0], .junk, .junk, .junk, .junk, I (a + X1.length : Nat), I (J - 1 : Nat), .junk, .junk, .junk, .junk, .junk, .junk, .junk, .junk, .junk, .junk, .junk, .junk, .junk, .junk, .junk, .junk, .junk, .junk, .junk, .junk, .junk, .junk, .junk, .junk, .junk, .junk, .junk, .junk, .junk, .junk, .junk, .junk, .junk, .junk, .junk, .junk, .junk, .junk, .junk, .junk, .junk, .junk, .junk], _, by omega, Weak.cov (by (conv => whnf); (repeat (refine ⟨rfl, ?_⟩; (conv => whnf))); exact trivial), V3, v :: V2, J - 1, by omega, by simp, rfl, ?_, rfl, rfl⟩
              intro u hu
              rcases List.mem_cons.1 hu with rfl | hu
              · exact hc3
              · exact g3 u hu
            · rw [cmp_lt] at hc3
              have hc3 : ¬ ptV cs x < ptV cs v := by simpa using hc3
              (conv => whnf); (try (refine ⟨(rfl : (_ : Heap) = _), ?_⟩; (conv => whnf)))
              refine .inr ⟨by simp, ?_⟩
              conv => whnf
              rw [w3]
              have e5 : A ++ (V3 ++ [v] ++ x :: (V2 ++ (X3 ++ Z))) = A ++ ((V3 ++ [v] ++ x :: V2) ++ (X3 ++ Z)) := by simp
              rw [e5]
              refine .inl ⟨rfl, X3.length, [.sl 1 [] 1 0 N false, I a, I b, .fn 36 [] [.ref 0 [] 1 0 0], .junk, .junk, .junk, .junk, I (a + (X1.length + 1) : Nat), .junk, .junk, .junk, .junk, .junk, .junk, .junk, .junk, .junk, .junk, .junk, .junk, .junk, .junk, .junk, .junk, .junk, .junk, .junk, .junk, .junk, .junk, .junk, .junk, .junk, .junk, .junk, .junk, .junk, .junk, .junk, .junk, .junk, .junk, .junk, .junk, .junk, .junk, .junk, .junk, .junk, .junk, .junk, .junk], _, by omega, Weak.cov (by (conv => whnf); (repeat (refine ⟨rfl, ?_⟩; (conv => whnf))); exact trivial), V3 ++ [v] ++ x :: V2, X1 ++ [x], X3, by rw [h1]; simp, rfl, by simp, ins_ok h4 g3 ?_, ?_, by simp, rfl⟩
              · intro u hu
                have hvx : Le (ptV cs) v x := by
                  have := hsb v (by simp)
                  unfold Le; omega
                rcases List.mem_append.1 hu with hu | hu
                · have := (List.pairwise_append.1 (List.pairwise_append.1 h4).1).2.2 u hu v (by simp)
                  exact Le.trans this hvx
                · obtain rfl := List.mem_singleton.1 hu; exact hvx
              · refine List.perm_middle.trans ((h5.cons x).trans ?_)
                exact (List.perm_append_comm (l₁ := [x]) (l₂ := X1))
          · (conv => whnf); (try (refine ⟨(rfl : (_ : Heap) = _), ?_⟩; (conv => whnf)))
            have hv1 : V1 = [] := List.eq_nil_of_length_eq_zero (by simp at hc2; omega)
            subst hv1
            refine .inr ⟨by simp, ?_⟩
            conv => whnf
            rw [w3]
            refine .inl ⟨rfl, X3.length, [.sl 1 [] 1 0 N false, I a, I b, .fn 36 [] [.ref 0 [] 1 0 0], .junk, .junk, .junk, .junk, I (a + (X1.length + 1) : Nat), .junk, .junk, .junk, .junk, .junk, .junk, .junk, .junk, .junk, .junk, .junk, .junk, .junk, .junk, .junk, .junk, .junk, .junk, .junk, .junk, .junk, .junk, .junk, .junk, .junk, .junk, .junk, .junk, .junk, .junk, .junk, .junk, .junk, .junk, .junk, .junk, .junk, .junk, .junk, .junk, .junk, .junk, .junk, .junk], _, by omega, Weak.cov (by (conv => whnf); (repeat (refine ⟨rfl, ?_⟩; (conv => whnf))); exact trivial), x :: V2, X1 ++ [x], X3, by rw [h1]; simp, rfl, by simp, ins_ok h4 g3 (by simp), ?_, by simp, rfl⟩
            refine (h5.cons x).trans ?_
            exact (List.perm_append_comm (l₁ := [x]) (l₂ := X1))
      · have hx2 : X2 = [] := List.eq_nil_of_length_eq_zero (by simp at hc hlX; omega)
        subst hx2
        rw [List.append_nil] at h1
        obtain rfl : W1 = W := Sd.ext h4 hs (h5.trans (h1 ▸ hp.symm))
        (conv => whnf); (try (refine ⟨(rfl : (_ : Heap) = _), ?_⟩; (conv => whnf)))
        refine .inr ⟨by simp, ?_⟩
        conv => whnf
        exact ⟨.inr rfl, _, .refl _, rfl, rfl⟩
end Go.Srt
