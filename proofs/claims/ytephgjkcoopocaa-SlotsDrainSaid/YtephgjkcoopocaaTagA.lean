/- Contracts of the functions of layer 1 (tag) and of its reference: what each call returns; the world stays as it is. -/
import Derived.Test.YtephgjkcoopocaaRows
import Derived.WalkKit
namespace Go.Proofs.Ytephgjkcoopocaa
open Go.RowKit
set_option linter.unusedVariables false

theorem or_low (t i : Int) (h1 : 0 ≤ t) (h2 : t < 4294967296) (h3 : -1 ≤ i) (h4 : i ≤ 2147483646) :
    bits .or .u64 (t * 4294967296) (i + 1) = t * 4294967296 + (i + 1) := by
  rw [u64_or _ _ (by omega) (by omega) (by omega) (by omega)]
  obtain ⟨a, rfl⟩ := Int.eq_ofNat_of_zero_le h1
  obtain ⟨b, hb⟩ := Int.eq_ofNat_of_zero_le (show 0 ≤ i + 1 by omega)
  rw [hb]
  have hlt : b < 2 ^ 32 := by have : (b : Int) < 4294967296 := by omega
                              simpa using (by omega : b < 4294967296)
  have := Nat.two_pow_add_eq_or_of_lt hlt a
  have e : ((a : Int) * 4294967296).toNat = 2 ^ 32 * a := by omega
  rw [e, Int.toNat_natCast, ← this]
  omega

set_option maxHeartbeats 400000 in
theorem make_no (t i : Int) (w : World) (h : i < -1 ∨ 2147483646 < i) :
    Calls Try.prog 69 #[.int .u32 t, .int .i64 i] w fun e w' => e = .returned (.tuple #[.int .u64 0, .int .i64 1]) ∧ w = w' := by
  rcases h with h | h
  · go_enter Try.func69, Try.ntmps69
    go_wp2
    go_ret2
    exact ⟨rfl, rfl⟩
  · have h' : ¬ i < -1 := by omega
    go_enter Try.func69, Try.ntmps69
    go_wp2
    go_ret2
    exact ⟨rfl, rfl⟩

set_option maxHeartbeats 400000 in
theorem make_yes (t i : Int) (w : World) (h1 : 0 ≤ t) (h2 : t < 4294967296) (h3 : -1 ≤ i) (h4 : i ≤ 2147483646) :
    Calls Try.prog 69 #[.int .u32 t, .int .i64 i] w fun e w' => e = .returned (.tuple #[.int .u64 (t * 4294967296 + (i + 1)), .int .i64 0]) ∧ w = w' := by
  go_enter Try.func69, Try.ntmps69
  go_wp2
  go_ret2
  exact ⟨by simp [or_low t i h1 h2 h3 h4], rfl⟩

set_option maxHeartbeats 400000 in
theorem tag_any (x : Int) (w : World) (h1 : 0 ≤ x) (h2 : x < 18446744073709551616) :
    Calls Try.prog 42 #[.int .u64 x] w fun e w' => e = .returned (.int .u32 (x / 4294967296)) ∧ w = w' := by
  go_enter Try.func42, Try.ntmps42
  go_wp2
  go_ret
  exact ⟨rfl, rfl⟩

set_option maxHeartbeats 400000 in
theorem index_any (x : Int) (w : World) (h1 : 0 ≤ x) (h2 : x < 18446744073709551616) :
    Calls Try.prog 61 #[.int .u64 x] w fun e w' => e = .returned (.int .i64 (x % 4294967296 - 1)) ∧ w = w' := by
  go_enter Try.func61, Try.ntmps61
  go_wp2
  go_ret
  exact ⟨rfl, rfl⟩
end Go.Proofs.Ytephgjkcoopocaa
