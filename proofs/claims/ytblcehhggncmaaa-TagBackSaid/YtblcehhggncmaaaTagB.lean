/- Contracts of layer 1 (tag), of its reference, and of the example: what each call returns; the world stays as it is. -/
import Derived.Test.YtblcehhggncmaaaTagA
namespace Go.Proofs.Ytblcehhggncmaaa
open Go.RowKit
set_option linter.unusedVariables false

set_option maxHeartbeats 400000 in
theorem next_no (x i : Int) (w : World) (h1 : 0 ≤ x) (h2 : x < 18446744073709551616) (h : i < -1 ∨ 2147483646 < i) :
    Calls Try.prog 17 #[.int .u64 x, .int .i64 i] w fun e w' => e = .returned (.tuple #[.int .u64 0, .int .i64 1]) ∧ w = w' := by
  go_enter Try.func17, Try.ntmps17
  go_wp2_with (first | (go_at_call 20; refine (tag_any _ _ h1 h2).mono ?_; rintro e w' ⟨rfl, rfl⟩) | (go_at_call 15; refine (make_no _ _ _ h).mono ?_; rintro e w' ⟨rfl, rfl⟩))
  go_ret2
  exact ⟨rfl, rfl⟩

set_option maxHeartbeats 400000 in
theorem next_yes (x i : Int) (w : World) (h1 : 0 ≤ x) (h2 : x < 18446744073709551616) (h3 : -1 ≤ i) (h4 : i ≤ 2147483646) :
    Calls Try.prog 17 #[.int .u64 x, .int .i64 i] w fun e w' => e = .returned (.tuple #[.int .u64 ((x / 4294967296 + 1) % 4294967296 * 4294967296 + (i + 1)), .int .i64 0]) ∧ w = w' := by
  go_enter Try.func17, Try.ntmps17
  go_wp2_with (first | (go_at_call 20; refine (tag_any _ _ h1 h2).mono ?_; rintro e w' ⟨rfl, rfl⟩) | (go_at_call 15; refine (make_yes _ _ _ (by omega) (by omega) h3 h4).mono ?_; rintro e w' ⟨rfl, rfl⟩))
  go_ret2
  exact ⟨rfl, rfl⟩

set_option maxHeartbeats 400000 in
theorem refMake_no (t i : Int) (w : World) (h : i < -1 ∨ 2147483646 < i) :
    Calls Try.prog 16 #[.int .u32 t, .int .i64 i] w fun e w' => e = .returned (.tuple #[.int .u64 0, .int .i64 1]) ∧ w = w' := by
  rcases h with h | h
  · have h' : ¬ -1 ≤ i := by omega
    go_enter Try.func16, Try.ntmps16
    go_wp2
    go_ret2
    exact ⟨rfl, rfl⟩
  · have h' : ¬ i ≤ 2147483646 := by omega
    have h'' : -1 ≤ i := by omega
    go_enter Try.func16, Try.ntmps16
    go_wp2
    go_ret2
    exact ⟨rfl, rfl⟩

set_option maxHeartbeats 400000 in
theorem refMake_yes (t i : Int) (w : World) (h1 : 0 ≤ t) (h2 : t < 4294967296) (h3 : -1 ≤ i) (h4 : i ≤ 2147483646) :
    Calls Try.prog 16 #[.int .u32 t, .int .i64 i] w fun e w' => e = .returned (.tuple #[.int .u64 (t * 4294967296 + (i + 1)), .int .i64 0]) ∧ w = w' := by
  go_enter Try.func16, Try.ntmps16
  go_wp2
  go_ret2
  exact ⟨rfl, rfl⟩

set_option maxHeartbeats 400000 in
theorem refTag_any (x : Int) (w : World) (h1 : 0 ≤ x) (h2 : x < 18446744073709551616) :
    Calls Try.prog 21 #[.int .u64 x] w fun e w' => e = .returned (.int .u32 (x / 4294967296)) ∧ w = w' := by
  go_enter Try.func21, Try.ntmps21
  go_wp2
  go_ret
  exact ⟨rfl, rfl⟩

set_option maxHeartbeats 400000 in
theorem refIndex_any (x : Int) (w : World) (h1 : 0 ≤ x) (h2 : x < 18446744073709551616) :
    Calls Try.prog 23 #[.int .u64 x] w fun e w' => e = .returned (.int .i64 (x % 4294967296 - 1)) ∧ w = w' := by
  go_enter Try.func23, Try.ntmps23
  go_wp2
  go_ret
  exact ⟨rfl, rfl⟩

set_option maxHeartbeats 400000 in
theorem refNext_no (x i : Int) (w : World) (h1 : 0 ≤ x) (h2 : x < 18446744073709551616) (h : i < -1 ∨ 2147483646 < i) :
    Calls Try.prog 18 #[.int .u64 x, .int .i64 i] w fun e w' => e = .returned (.tuple #[.int .u64 0, .int .i64 1]) ∧ w = w' := by
  by_cases hx : x / 4294967296 < 4294967295
  all_goals
    go_enter Try.func18, Try.ntmps18
    go_wp2_with (first | (go_at_call 21; refine (refTag_any _ _ h1 h2).mono ?_; rintro e w' ⟨rfl, rfl⟩) | (go_at_call 16; refine (refMake_no _ _ _ h).mono ?_; rintro e w' ⟨rfl, rfl⟩))
    go_ret2
    exact ⟨rfl, rfl⟩

set_option maxHeartbeats 400000 in
theorem refNext_yes (x i : Int) (w : World) (h1 : 0 ≤ x) (h2 : x < 18446744073709551616) (h3 : -1 ≤ i) (h4 : i ≤ 2147483646) :
    Calls Try.prog 18 #[.int .u64 x, .int .i64 i] w fun e w' => e = .returned (.tuple #[.int .u64 ((x / 4294967296 + 1) % 4294967296 * 4294967296 + (i + 1)), .int .i64 0]) ∧ w = w' := by
  by_cases hx : x / 4294967296 < 4294967295
  · go_enter Try.func18, Try.ntmps18
    go_wp2_with (first | (go_at_call 21; refine (refTag_any _ _ h1 h2).mono ?_; rintro e w' ⟨rfl, rfl⟩) | (go_at_call 16; refine (refMake_yes _ _ _ (by omega) (by omega) h3 h4).mono ?_; rintro e w' ⟨rfl, rfl⟩))
    go_ret2
    refine ⟨?_, rfl⟩
    have e : (x / 4294967296 + 1) % 4294967296 = x / 4294967296 + 1 := by omega
    rw [e]; rfl
  · go_enter Try.func18, Try.ntmps18
    go_wp2_with (first | (go_at_call 21; refine (refTag_any _ _ h1 h2).mono ?_; rintro e w' ⟨rfl, rfl⟩) | (go_at_call 16; refine (refMake_yes _ _ _ (by omega) (by omega) h3 h4).mono ?_; rintro e w' ⟨rfl, rfl⟩))
    go_ret2
    refine ⟨?_, rfl⟩
    have e : (x / 4294967296 + 1) % 4294967296 = 0 := by omega
    rw [e]; simp

set_option maxHeartbeats 400000 in
theorem tagged_any (w : World) :
    Calls Try.prog 19 #[] w fun e w' => e = .returned (.bool true) ∧ w = w' := by
  go_enter Try.func19, Try.ntmps19
  go_wp2
  go_ret
  exact ⟨rfl, rfl⟩
end Go.Proofs.Ytblcehhggncmaaa
