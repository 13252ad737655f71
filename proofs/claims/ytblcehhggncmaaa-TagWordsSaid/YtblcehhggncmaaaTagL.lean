/- The walks of the statements of layer 1: each returns true. -/
import Derived.Test.YtblcehhggncmaaaTagB
import Derived.Lib.Hide
namespace Go.Proofs.Ytblcehhggncmaaa
open Go.RowKit
set_option linter.unusedVariables false

set_option maxHeartbeats 800000 in
theorem tagWords_walk (t i x : Int) (w : World) (t1 : 0 ≤ t) (t2 : t < 4294967296) (x1 : 0 ≤ x) (x2 : x < 18446744073709551616) :
    Calls Try.prog 3 #[.int .u32 t, .int .i64 i, .int .u64 x] w fun e w' => e = .returned (.bool true) ∧ w = w' := by
  by_cases h : i < -1 ∨ 2147483646 < i
  · go_enter Try.func3, Try.ntmps3
    go_wp2_with (first
      | (go_at_call 15; refine (make_no _ _ _ h).mono ?_; rintro e w' ⟨rfl, rfl⟩)
      | (go_at_call 16; refine (refMake_no _ _ _ h).mono ?_; rintro e w' ⟨rfl, rfl⟩)
      | (go_at_call 17; refine (next_no _ _ _ x1 x2 h).mono ?_; rintro e w' ⟨rfl, rfl⟩)
      | (go_at_call 18; refine (refNext_no _ _ _ x1 x2 h).mono ?_; rintro e w' ⟨rfl, rfl⟩)
      | (go_at_call 19; refine (tagged_any _).mono ?_; rintro e w' ⟨rfl, rfl⟩)
      | (go_at_call 20; refine (tag_any _ _ x1 x2).mono ?_; rintro e w' ⟨rfl, rfl⟩)
      | (go_at_call 21; refine (refTag_any _ _ x1 x2).mono ?_; rintro e w' ⟨rfl, rfl⟩)
      | (go_at_call 22; refine (index_any _ _ x1 x2).mono ?_; rintro e w' ⟨rfl, rfl⟩)
      | (go_at_call 23; refine (refIndex_any _ _ x1 x2).mono ?_; rintro e w' ⟨rfl, rfl⟩))
    go_ret
    exact ⟨by simp, rfl⟩
  · have h3 : -1 ≤ i := by omega
    have h4 : i ≤ 2147483646 := by omega
    clear h
    go_enter Try.func3, Try.ntmps3
    go_wp2_with (first
      | (go_at_call 15; refine (make_yes _ _ _ t1 t2 h3 h4).mono ?_; rintro e w' ⟨rfl, rfl⟩)
      | (go_at_call 16; refine (refMake_yes _ _ _ t1 t2 h3 h4).mono ?_; rintro e w' ⟨rfl, rfl⟩)
      | (go_at_call 17; refine (next_yes _ _ _ x1 x2 h3 h4).mono ?_; rintro e w' ⟨rfl, rfl⟩)
      | (go_at_call 18; refine (refNext_yes _ _ _ x1 x2 h3 h4).mono ?_; rintro e w' ⟨rfl, rfl⟩)
      | (go_at_call 19; refine (tagged_any _).mono ?_; rintro e w' ⟨rfl, rfl⟩)
      | (go_at_call 20; refine (tag_any _ _ x1 x2).mono ?_; rintro e w' ⟨rfl, rfl⟩)
      | (go_at_call 21; refine (refTag_any _ _ x1 x2).mono ?_; rintro e w' ⟨rfl, rfl⟩)
      | (go_at_call 22; refine (index_any _ _ x1 x2).mono ?_; rintro e w' ⟨rfl, rfl⟩)
      | (go_at_call 23; refine (refIndex_any _ _ x1 x2).mono ?_; rintro e w' ⟨rfl, rfl⟩))
    go_ret
    exact ⟨by simp, rfl⟩

set_option maxHeartbeats 800000 in
theorem tagOrder_walk (t u i k : Int) (w : World) (t1 : 0 ≤ t) (t2 : t < 4294967296) (u1 : 0 ≤ u) (u2 : u < 4294967296) :
    Calls Try.prog 7 #[.int .u32 t, .int .u32 u, .int .i64 i, .int .i64 k] w fun e w' => e = .returned (.bool true) ∧ w = w' := by
  by_cases hi : i < -1 ∨ 2147483646 < i
  · by_cases hk : k < -1 ∨ 2147483646 < k
    · go_enter Try.func7, Try.ntmps7
      go_wp2_with fail
      refine (make_no _ _ _ hi).mono ?_; rintro e w' ⟨rfl, rfl⟩
      go_wp2_with fail
      refine (make_no _ _ _ hk).mono ?_; rintro e w' ⟨rfl, rfl⟩
      go_wp2_with (go_at_call 19; refine (tagged_any _).mono ?_; rintro e w' ⟨rfl, rfl⟩)
      go_ret
      exact ⟨rfl, rfl⟩
    · go_enter Try.func7, Try.ntmps7
      go_wp2_with fail
      refine (make_no _ _ _ hi).mono ?_; rintro e w' ⟨rfl, rfl⟩
      go_wp2_with fail
      refine (make_yes _ _ _ u1 u2 (by omega) (by omega)).mono ?_; rintro e w' ⟨rfl, rfl⟩
      go_wp2_with (go_at_call 19; refine (tagged_any _).mono ?_; rintro e w' ⟨rfl, rfl⟩)
      go_ret
      exact ⟨rfl, rfl⟩
  · by_cases hk : k < -1 ∨ 2147483646 < k
    · go_enter Try.func7, Try.ntmps7
      go_wp2_with fail
      refine (make_yes _ _ _ t1 t2 (by omega) (by omega)).mono ?_; rintro e w' ⟨rfl, rfl⟩
      go_wp2_with fail
      refine (make_no _ _ _ hk).mono ?_; rintro e w' ⟨rfl, rfl⟩
      go_wp2_with (go_at_call 19; refine (tagged_any _).mono ?_; rintro e w' ⟨rfl, rfl⟩)
      go_ret
      exact ⟨rfl, rfl⟩
    · have i1 : -1 ≤ i := by omega
      have i2 : i ≤ 2147483646 := by omega
      have k1 : -1 ≤ k := by omega
      have k2 : k ≤ 2147483646 := by omega
      clear hi hk
      rcases Int.lt_trichotomy t u with htu | htu | htu
      · have d1 : decide (t * 4294967296 + (i + 1) < u * 4294967296 + (k + 1)) = true := by simp; omega
        have d2 : (t * 4294967296 + (i + 1) == u * 4294967296 + (k + 1)) = false := by rw [beq_eq_false_iff_ne]; omega
        have d3 : (t == u) = false := by rw [beq_eq_false_iff_ne]; omega
        go_enter Try.func7, Try.ntmps7
        go_wp2_with fail
        refine (make_yes _ _ _ t1 t2 i1 i2).mono ?_; rintro e w' ⟨rfl, rfl⟩
        go_wp2_with fail
        refine (make_yes _ _ _ u1 u2 k1 k2).mono ?_; rintro e w' ⟨rfl, rfl⟩
        go_wp2_with (go_at_call 19; refine (tagged_any _).mono ?_; rintro e w' ⟨rfl, rfl⟩)
        go_ret
        exact ⟨by first | rfl | simp_all, rfl⟩
      · subst htu
        rcases Int.lt_trichotomy i k with hik | hik | hik
        · have d1 : decide (t * 4294967296 + (i + 1) < t * 4294967296 + (k + 1)) = true := by simp; omega
          have d2 : (t * 4294967296 + (i + 1) == t * 4294967296 + (k + 1)) = false := by rw [beq_eq_false_iff_ne]; omega
          have d3 : (i == k) = false := by rw [beq_eq_false_iff_ne]; omega
          go_enter Try.func7, Try.ntmps7
          go_wp2_with fail
          refine (make_yes _ _ _ t1 t2 i1 i2).mono ?_; rintro e w' ⟨rfl, rfl⟩
          go_wp2_with fail
          refine (make_yes _ _ _ u1 u2 k1 k2).mono ?_; rintro e w' ⟨rfl, rfl⟩
          go_wp2_with (go_at_call 19; refine (tagged_any _).mono ?_; rintro e w' ⟨rfl, rfl⟩)
          go_ret
          exact ⟨by first | rfl | simp_all, rfl⟩
        · subst hik
          go_enter Try.func7, Try.ntmps7
          go_wp2_with fail
          refine (make_yes _ _ _ t1 t2 i1 i2).mono ?_; rintro e w' ⟨rfl, rfl⟩
          go_wp2_with fail
          refine (make_yes _ _ _ u1 u2 k1 k2).mono ?_; rintro e w' ⟨rfl, rfl⟩
          go_wp2_with (go_at_call 19; refine (tagged_any _).mono ?_; rintro e w' ⟨rfl, rfl⟩)
          go_ret
          exact ⟨by first | rfl | simp_all, rfl⟩
        · have d1 : decide (t * 4294967296 + (i + 1) < t * 4294967296 + (k + 1)) = false := by simp; omega
          have d2 : (t * 4294967296 + (i + 1) == t * 4294967296 + (k + 1)) = false := by rw [beq_eq_false_iff_ne]; omega
          have d3 : (i == k) = false := by rw [beq_eq_false_iff_ne]; omega
          have d4 : ¬ i < k := by omega
          go_enter Try.func7, Try.ntmps7
          go_wp2_with fail
          refine (make_yes _ _ _ t1 t2 i1 i2).mono ?_; rintro e w' ⟨rfl, rfl⟩
          go_wp2_with fail
          refine (make_yes _ _ _ u1 u2 k1 k2).mono ?_; rintro e w' ⟨rfl, rfl⟩
          go_wp2_with (go_at_call 19; refine (tagged_any _).mono ?_; rintro e w' ⟨rfl, rfl⟩)
          go_ret
          exact ⟨by first | rfl | simp_all, rfl⟩
      · have d1 : decide (t * 4294967296 + (i + 1) < u * 4294967296 + (k + 1)) = false := by simp; omega
        have d2 : (t * 4294967296 + (i + 1) == u * 4294967296 + (k + 1)) = false := by rw [beq_eq_false_iff_ne]; omega
        have d3 : (t == u) = false := by rw [beq_eq_false_iff_ne]; omega
        have d4 : ¬ t < u := by omega
        go_enter Try.func7, Try.ntmps7
        go_wp2_with fail
        refine (make_yes _ _ _ t1 t2 i1 i2).mono ?_; rintro e w' ⟨rfl, rfl⟩
        go_wp2_with fail
        refine (make_yes _ _ _ u1 u2 k1 k2).mono ?_; rintro e w' ⟨rfl, rfl⟩
        go_wp2_with (go_at_call 19; refine (tagged_any _).mono ?_; rintro e w' ⟨rfl, rfl⟩)
        go_ret
        exact ⟨by first | rfl | simp_all, rfl⟩
set_option maxHeartbeats 800000 in
theorem tagBack_walk (t i x : Int) (w : World) (t1 : 0 ≤ t) (t2 : t < 4294967296) (x1 : 0 ≤ x) (x2 : x < 18446744073709551616) :
    Calls Try.prog 4 #[.int .u32 t, .int .i64 i, .int .u64 x] w fun e w' => e = .returned (.bool true) ∧ w = w' := by
  by_cases hx : x % 4294967296 - 1 < -1 ∨ 2147483646 < x % 4294967296 - 1 <;> by_cases h : i < -1 ∨ 2147483646 < i
  · have hb : (decide (-1 ≤ i) && decide (i ≤ 2147483646)) = false := by simp; omega
    go_enter Try.func4, Try.ntmps4
    go_wp2_with fail
    refine (make_no _ _ _ h).mono ?_; rintro e w' ⟨rfl, rfl⟩
    go_wp2_with (first
      | (go_at_call 20; refine (tag_any _ _ (by omega) (by omega)).mono ?_; rintro e w' ⟨rfl, rfl⟩)
      | (go_at_call 22; refine (index_any _ _ (by omega) (by omega)).mono ?_; rintro e w' ⟨rfl, rfl⟩)
      | (go_at_call 15; refine (make_no _ _ _ hx).mono ?_; rintro e w' ⟨rfl, rfl⟩)
      | (go_at_call 19; refine (tagged_any _).mono ?_; rintro e w' ⟨rfl, rfl⟩))
    all_goals
      go_ret
      exact ⟨by first | rfl | simp_all | (simp; omega), rfl⟩
  · have h3 : -1 ≤ i := by omega
    have h4 : i ≤ 2147483646 := by omega
    have m1 : (t * 4294967296 + (i + 1)) / 4294967296 = t := by omega
    have m2 : (t * 4294967296 + (i + 1)) % 4294967296 - 1 = i := by omega
    go_enter Try.func4, Try.ntmps4
    go_wp2_with fail
    refine (make_yes _ _ _ t1 t2 h3 h4).mono ?_; rintro e w' ⟨rfl, rfl⟩
    go_wp2_with (first
      | (go_at_call 20; refine (tag_any _ _ (by omega) (by omega)).mono ?_; rintro e w' ⟨rfl, rfl⟩)
      | (go_at_call 22; refine (index_any _ _ (by omega) (by omega)).mono ?_; rintro e w' ⟨rfl, rfl⟩)
      | (go_at_call 15; refine (make_no _ _ _ hx).mono ?_; rintro e w' ⟨rfl, rfl⟩)
      | (go_at_call 19; refine (tagged_any _).mono ?_; rintro e w' ⟨rfl, rfl⟩))
    all_goals
      go_ret
      exact ⟨by first | rfl | simp_all | (simp; omega), rfl⟩
  · have hb : (decide (-1 ≤ i) && decide (i ≤ 2147483646)) = false := by simp; omega
    have m3 : (x / 4294967296 * 4294967296 + (x % 4294967296 - 1 + 1)) = x := by omega
    go_enter Try.func4, Try.ntmps4
    go_wp2_with fail
    refine (make_no _ _ _ h).mono ?_; rintro e w' ⟨rfl, rfl⟩
    go_wp2_with (first
      | (go_at_call 20; refine (tag_any _ _ (by omega) (by omega)).mono ?_; rintro e w' ⟨rfl, rfl⟩)
      | (go_at_call 22; refine (index_any _ _ (by omega) (by omega)).mono ?_; rintro e w' ⟨rfl, rfl⟩)
      | (go_at_call 15; refine (make_yes _ _ _ (by omega) (by omega) (by omega) (by omega)).mono ?_; rintro e w' ⟨rfl, rfl⟩)
      | (go_at_call 19; refine (tagged_any _).mono ?_; rintro e w' ⟨rfl, rfl⟩))
    all_goals
      go_ret
      exact ⟨by first | rfl | simp_all | (simp; omega), rfl⟩
  · have h3 : -1 ≤ i := by omega
    have h4 : i ≤ 2147483646 := by omega
    have m1 : (t * 4294967296 + (i + 1)) / 4294967296 = t := by omega
    have m2 : (t * 4294967296 + (i + 1)) % 4294967296 - 1 = i := by omega
    have m3 : (x / 4294967296 * 4294967296 + (x % 4294967296 - 1 + 1)) = x := by omega
    go_enter Try.func4, Try.ntmps4
    go_wp2_with fail
    refine (make_yes _ _ _ t1 t2 h3 h4).mono ?_; rintro e w' ⟨rfl, rfl⟩
    go_wp2_with (first
      | (go_at_call 20; refine (tag_any _ _ (by omega) (by omega)).mono ?_; rintro e w' ⟨rfl, rfl⟩)
      | (go_at_call 22; refine (index_any _ _ (by omega) (by omega)).mono ?_; rintro e w' ⟨rfl, rfl⟩)
      | (go_at_call 15; refine (make_yes _ _ _ (by omega) (by omega) (by omega) (by omega)).mono ?_; rintro e w' ⟨rfl, rfl⟩)
      | (go_at_call 19; refine (tagged_any _).mono ?_; rintro e w' ⟨rfl, rfl⟩))
    all_goals
      go_ret
      exact ⟨by first | rfl | simp_all | (simp; omega), rfl⟩

set_option maxHeartbeats 800000 in
theorem tagAnother_walk (x i j : Int) (w : World) (x1 : 0 ≤ x) (x2 : x < 18446744073709551616) :
    Calls Try.prog 5 #[.int .u64 x, .int .i64 i, .int .i64 j] w fun e w' => e = .returned (.bool true) ∧ w = w' := by
  by_cases hi : i < -1 ∨ 2147483646 < i <;> by_cases hj : j < -1 ∨ 2147483646 < j
  · go_enter Try.func5, Try.ntmps5
    go_wp2_with fail
    refine (next_no _ _ _ x1 x2 hi).mono ?_; rintro e w' ⟨rfl, rfl⟩
    go_wp2_with fail
    refine (next_no _ _ _ (by omega) (by omega) hj).mono ?_; rintro e w' ⟨rfl, rfl⟩
    go_wp2_with (first | (go_at_call 20; refine (tag_any _ _ (by omega) (by omega)).mono ?_; rintro e w' ⟨rfl, rfl⟩) | (go_at_call 22; refine (index_any _ _ (by omega) (by omega)).mono ?_; rintro e w' ⟨rfl, rfl⟩) | (go_at_call 19; refine (tagged_any _).mono ?_; rintro e w' ⟨rfl, rfl⟩))
    all_goals
      go_ret
      exact ⟨by first | rfl | simp_all | (simp; omega), rfl⟩
  · go_enter Try.func5, Try.ntmps5
    go_wp2_with fail
    refine (next_no _ _ _ x1 x2 hi).mono ?_; rintro e w' ⟨rfl, rfl⟩
    go_wp2_with fail
    refine (next_yes _ _ _ (by omega) (by omega) (by omega) (by omega)).mono ?_; rintro e w' ⟨rfl, rfl⟩
    go_wp2_with (first | (go_at_call 20; refine (tag_any _ _ (by omega) (by omega)).mono ?_; rintro e w' ⟨rfl, rfl⟩) | (go_at_call 22; refine (index_any _ _ (by omega) (by omega)).mono ?_; rintro e w' ⟨rfl, rfl⟩) | (go_at_call 19; refine (tagged_any _).mono ?_; rintro e w' ⟨rfl, rfl⟩))
    all_goals
      go_ret
      exact ⟨by first | rfl | simp_all | (simp; omega), rfl⟩
  · go_enter Try.func5, Try.ntmps5
    go_wp2_with fail
    refine (next_yes _ _ _ x1 x2 (by omega) (by omega)).mono ?_; rintro e w' ⟨rfl, rfl⟩
    go_wp2_with fail
    refine (next_no _ _ _ (by omega) (by omega) hj).mono ?_; rintro e w' ⟨rfl, rfl⟩
    go_wp2_with (first | (go_at_call 20; refine (tag_any _ _ (by omega) (by omega)).mono ?_; rintro e w' ⟨rfl, rfl⟩) | (go_at_call 22; refine (index_any _ _ (by omega) (by omega)).mono ?_; rintro e w' ⟨rfl, rfl⟩) | (go_at_call 19; refine (tagged_any _).mono ?_; rintro e w' ⟨rfl, rfl⟩))
    all_goals
      go_ret
      exact ⟨by first | rfl | simp_all | (simp; omega), rfl⟩
  · obtain ⟨a, ha⟩ : ∃ a, a = (x / 4294967296 + 1) % 4294967296 * 4294967296 + (i + 1) := ⟨_, rfl⟩
    obtain ⟨b, hb⟩ : ∃ b, b = (a / 4294967296 + 1) % 4294967296 * 4294967296 + (j + 1) := ⟨_, rfl⟩
    have a1 : 0 ≤ a := by omega
    have a2 : a < 18446744073709551616 := by omega
    have b1 : 0 ≤ b := by omega
    have b2 : b < 18446744073709551616 := by omega
    have d1 : (a != x) = true := by rw [bne_iff_ne]; omega
    have d2 : (b != x) = true := by rw [bne_iff_ne]; omega
    have d3 : (a != b) = true := by rw [bne_iff_ne]; omega
    have d4 : b % 4294967296 - 1 = j := by omega
    have d5 : b / 4294967296 = (x / 4294967296 + 2) % 4294967296 := by omega
    have n1 := fun w => next_yes x i w x1 x2 (by omega) (by omega)
    have n2 := fun w => next_yes a j w a1 a2 (by omega) (by omega)
    rw [← ha] at n1
    rw [← hb] at n2
    have N1 := Lib.hid n1
    have N2 := Lib.hid n2
    clear n1 n2 ha hb
    go_enter Try.func5, Try.ntmps5
    go_wp2_with fail
    refine (N1.out _).mono ?_; rintro e w' ⟨rfl, rfl⟩
    go_wp2_with fail
    refine (N2.out _).mono ?_; rintro e w' ⟨rfl, rfl⟩
    go_wp2_with (first | (go_at_call 20; refine (tag_any _ _ (by omega) (by omega)).mono ?_; rintro e w' ⟨rfl, rfl⟩) | (go_at_call 22; refine (index_any _ _ (by omega) (by omega)).mono ?_; rintro e w' ⟨rfl, rfl⟩) | (go_at_call 19; refine (tagged_any _).mono ?_; rintro e w' ⟨rfl, rfl⟩))
    go_ret
    exact ⟨by first | rfl | simp_all | (simp; omega), rfl⟩

set_option maxHeartbeats 800000 in
theorem tagSteps_walk (x i n : Int) (w : World) (x1 : 0 ≤ x) (x2 : x < 18446744073709551616) :
    Calls Try.prog 6 #[.int .u64 x, .int .i64 i, .int .i64 n] w fun e w' => e = .returned (.bool true) ∧ w = w' := by
  by_cases hn : n < 0 ∨ 200 < n
  · rcases hn with hn | hn
    · go_enter Try.func6, Try.ntmps6
      go_wp2_with (go_at_call 19; refine (tagged_any _).mono ?_; rintro e w' ⟨rfl, rfl⟩)
      go_ret
      exact ⟨rfl, rfl⟩
    · have hn' : ¬ n < 0 := by omega
      go_enter Try.func6, Try.ntmps6
      go_wp2_with (go_at_call 19; refine (tagged_any _).mono ?_; rintro e w' ⟨rfl, rfl⟩)
      go_ret
      exact ⟨rfl, rfl⟩
  · have n1 : 0 ≤ n := by omega
    have n2 : n ≤ 200 := by omega
    clear hn
    go_enter Try.func6, Try.ntmps6
    go_wp2
    go_loop [7, 8] (fun y k => ∃ z m : Int, y = .int .u64 z ∧ k = .int .i64 m ∧ 0 ≤ z ∧ z < 18446744073709551616 ∧ 0 ≤ m ∧ m ≤ n ∧ z / 4294967296 = (x / 4294967296 + m) % 4294967296 ∧ (m = 0 ∨ z % 4294967296 - 1 = i)) (fun _ k => (n - intOf k).toNat)
    case atStart => exact ⟨x, 0, rfl, rfl, x1, x2, by omega, by omega, by omega, .inl rfl⟩
    case round =>
      obtain ⟨z, m, rfl, rfl, z1, z2, m1, m2, z3, z4⟩ := hrel
      by_cases hlt : m < n
      · by_cases hi : i < -1 ∨ 2147483646 < i
        · have hb : (decide (i < -1) || decide (2147483646 < i)) = true := by simpa using hi
          have Z3 := Lib.hid z3
          have Z4 := Lib.hid z4
          have Hi := Lib.hid hi
          clear z3 z4 hi
          go_wp2_with (first | (go_at_call 17; refine (next_no _ _ _ z1 z2 Hi.out).mono ?_; rintro e w' ⟨rfl, rfl⟩) | (go_at_call 19; refine (tagged_any _).mono ?_; rintro e w' ⟨rfl, rfl⟩))
          all_goals
            go_ret
            exact ⟨by first | rfl | simp_all, rfl⟩
        · have i1 : -1 ≤ i := by omega
          have i2 : i ≤ 2147483646 := by omega
          have Z3 := Lib.hid z3
          clear z3 z4 hi
          go_wp2_with (go_at_call 17; refine (next_yes _ _ _ z1 z2 i1 i2).mono ?_; rintro e w' ⟨rfl, rfl⟩)
          have z3 := Z3.out
          go_round
          case rel => exact ⟨_, _, rfl, rfl, by omega, by omega, by omega, by omega, by omega, .inr (by omega)⟩
          case measure => simp [intOf]; omega
      · have hm : m = n := by omega
        subst hm
        have hu : z / 4294967296 = (x / 4294967296 + m) % 4294967296 := z3
        by_cases h0 : m = 0
        · subst h0
          have hu' : z / 4294967296 = x / 4294967296 := by omega
          have Z3 := Lib.hid z3
          have Hu := Lib.hid hu
          clear z3 z4 hu
          go_wp2_with (first | (go_at_call 20; refine (tag_any _ _ (by omega) (by omega)).mono ?_; rintro e w' ⟨rfl, rfl⟩) | (go_at_call 22; refine (index_any _ _ (by omega) (by omega)).mono ?_; rintro e w' ⟨rfl, rfl⟩) | (go_at_call 19; refine (tagged_any _).mono ?_; rintro e w' ⟨rfl, rfl⟩))
          all_goals
            go_ret
            exact ⟨by first | rfl | simp_all, rfl⟩
        · have hz : z % 4294967296 - 1 = i := by omega
          have hm0 : (m == 0) = false := by rw [beq_eq_false_iff_ne]; omega
          have Z3 := Lib.hid z3
          clear z3 z4
          go_wp2_with (first | (go_at_call 20; refine (tag_any _ _ (by omega) (by omega)).mono ?_; rintro e w' ⟨rfl, rfl⟩) | (go_at_call 22; refine (index_any _ _ (by omega) (by omega)).mono ?_; rintro e w' ⟨rfl, rfl⟩) | (go_at_call 19; refine (tagged_any _).mono ?_; rintro e w' ⟨rfl, rfl⟩))
          all_goals
            go_ret
            exact ⟨by first | rfl | simp_all, rfl⟩
end Go.Proofs.Ytblcehhggncmaaa
