/- Contracts of layer 1 (tag), of its reference, and of the example: what each call returns; the world stays as it is. -/
import Derived.Test.YtephgjkcoopocaaTagA
namespace Go.Proofs.Ytephgjkcoopocaa
open Go.RowKit
set_option linter.unusedVariables false

set_option maxHeartbeats 400000 in
theorem next_no (x i : Int) (w : World) (h1 : 0 ≤ x) (h2 : x < 18446744073709551616) (h : i < -1 ∨ 2147483646 < i) :
    Calls Try.prog 62 #[.int .u64 x, .int .i64 i] w fun e w' => e = .returned (.tuple #[.int .u64 0, .int .i64 1]) ∧ w = w' := by
  go_enter Try.func62, Try.ntmps62
  go_wp2_with (first | (go_at_call 42; refine (tag_any _ _ h1 h2).mono ?_; rintro e w' ⟨rfl, rfl⟩) | (go_at_call 69; refine (make_no _ _ _ h).mono ?_; rintro e w' ⟨rfl, rfl⟩))
  go_ret2
  exact ⟨rfl, rfl⟩

set_option maxHeartbeats 400000 in
theorem next_yes (x i : Int) (w : World) (h1 : 0 ≤ x) (h2 : x < 18446744073709551616) (h3 : -1 ≤ i) (h4 : i ≤ 2147483646) :
    Calls Try.prog 62 #[.int .u64 x, .int .i64 i] w fun e w' => e = .returned (.tuple #[.int .u64 ((x / 4294967296 + 1) % 4294967296 * 4294967296 + (i + 1)), .int .i64 0]) ∧ w = w' := by
  go_enter Try.func62, Try.ntmps62
  go_wp2_with (first | (go_at_call 42; refine (tag_any _ _ h1 h2).mono ?_; rintro e w' ⟨rfl, rfl⟩) | (go_at_call 69; refine (make_yes _ _ _ (by omega) (by omega) h3 h4).mono ?_; rintro e w' ⟨rfl, rfl⟩))
  go_ret2
  exact ⟨rfl, rfl⟩

set_option maxHeartbeats 400000 in
theorem refMake_no (t i : Int) (w : World) (h : i < -1 ∨ 2147483646 < i) :
    Calls Try.prog 83 #[.int .u32 t, .int .i64 i] w fun e w' => e = .returned (.tuple #[.int .u64 0, .int .i64 1]) ∧ w = w' := by
  rcases h with h | h
  · have h' : ¬ -1 ≤ i := by omega
    go_enter Try.func83, Try.ntmps83
    go_wp2
    go_ret2
    exact ⟨rfl, rfl⟩
  · have h' : ¬ i ≤ 2147483646 := by omega
    have h'' : -1 ≤ i := by omega
    go_enter Try.func83, Try.ntmps83
    go_wp2
    go_ret2
    exact ⟨rfl, rfl⟩

set_option maxHeartbeats 400000 in
theorem refMake_yes (t i : Int) (w : World) (h1 : 0 ≤ t) (h2 : t < 4294967296) (h3 : -1 ≤ i) (h4 : i ≤ 2147483646) :
    Calls Try.prog 83 #[.int .u32 t, .int .i64 i] w fun e w' => e = .returned (.tuple #[.int .u64 (t * 4294967296 + (i + 1)), .int .i64 0]) ∧ w = w' := by
  go_enter Try.func83, Try.ntmps83
  go_wp2
  go_ret2
  exact ⟨rfl, rfl⟩

set_option maxHeartbeats 400000 in
theorem refTag_any (x : Int) (w : World) (h1 : 0 ≤ x) (h2 : x < 18446744073709551616) :
    Calls Try.prog 82 #[.int .u64 x] w fun e w' => e = .returned (.int .u32 (x / 4294967296)) ∧ w = w' := by
  go_enter Try.func82, Try.ntmps82
  go_wp2
  go_ret
  exact ⟨rfl, rfl⟩

set_option maxHeartbeats 400000 in
theorem refIndex_any (x : Int) (w : World) (h1 : 0 ≤ x) (h2 : x < 18446744073709551616) :
    Calls Try.prog 67 #[.int .u64 x] w fun e w' => e = .returned (.int .i64 (x % 4294967296 - 1)) ∧ w = w' := by
  go_enter Try.func67, Try.ntmps67
  go_wp2
  go_ret
  exact ⟨rfl, rfl⟩

set_option maxHeartbeats 400000 in
theorem refNext_no (x i : Int) (w : World) (h1 : 0 ≤ x) (h2 : x < 18446744073709551616) (h : i < -1 ∨ 2147483646 < i) :
    Calls Try.prog 63 #[.int .u64 x, .int .i64 i] w fun e w' => e = .returned (.tuple #[.int .u64 0, .int .i64 1]) ∧ w = w' := by
  by_cases hx : x / 4294967296 < 4294967295
  all_goals
    go_enter Try.func63, Try.ntmps63
    go_wp2_with (first | (go_at_call 82; refine (refTag_any _ _ h1 h2).mono ?_; rintro e w' ⟨rfl, rfl⟩) | (go_at_call 83; refine (refMake_no _ _ _ h).mono ?_; rintro e w' ⟨rfl, rfl⟩))
    go_ret2
    exact ⟨rfl, rfl⟩

set_option maxHeartbeats 400000 in
theorem refNext_yes (x i : Int) (w : World) (h1 : 0 ≤ x) (h2 : x < 18446744073709551616) (h3 : -1 ≤ i) (h4 : i ≤ 2147483646) :
    Calls Try.prog 63 #[.int .u64 x, .int .i64 i] w fun e w' => e = .returned (.tuple #[.int .u64 ((x / 4294967296 + 1) % 4294967296 * 4294967296 + (i + 1)), .int .i64 0]) ∧ w = w' := by
  by_cases hx : x / 4294967296 < 4294967295
  · go_enter Try.func63, Try.ntmps63
    go_wp2_with (first | (go_at_call 82; refine (refTag_any _ _ h1 h2).mono ?_; rintro e w' ⟨rfl, rfl⟩) | (go_at_call 83; refine (refMake_yes _ _ _ (by omega) (by omega) h3 h4).mono ?_; rintro e w' ⟨rfl, rfl⟩))
    go_ret2
    refine ⟨?_, rfl⟩
    have e : (x / 4294967296 + 1) % 4294967296 = x / 4294967296 + 1 := by omega
    rw [e]; rfl
  · go_enter Try.func63, Try.ntmps63
    go_wp2_with (first | (go_at_call 82; refine (refTag_any _ _ h1 h2).mono ?_; rintro e w' ⟨rfl, rfl⟩) | (go_at_call 83; refine (refMake_yes _ _ _ (by omega) (by omega) h3 h4).mono ?_; rintro e w' ⟨rfl, rfl⟩))
    go_ret2
    refine ⟨?_, rfl⟩
    have e : (x / 4294967296 + 1) % 4294967296 = 0 := by omega
    rw [e]; simp

end Go.Proofs.Ytephgjkcoopocaa
