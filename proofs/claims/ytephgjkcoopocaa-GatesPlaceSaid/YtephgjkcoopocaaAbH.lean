/- Small helps for walks. -/
import Derived.Test.YtephgjkcoopocaaAbG
import Derived.IntWalk
namespace Go.Ab
set_option linter.unusedVariables false

theorem i64_ok {n : Int} (h0 : -9223372036854775808 ≤ n) (h1 : n ≤ 9223372036854775807) : IntKind.i64.wrap n = n := IntWalk.i64_in n ⟨h0, h1⟩
theorem i64_nat {n : Nat} (h : n < 9223372036854775807) : IntKind.i64.wrap ((n : Int) + 1) = ((n + 1 : Nat) : Int) := by rw [i64_ok (by omega) (by omega)]; rfl

section
variable {P : Program} {f : FuncId} {H H' : Heap}

/-- Arguments that say more. -/
theorem SoundAt.pre {args args' : List C} {r : C} (h : SoundAt P f H args' r H') (hw : WCs args args') : SoundAt P f H args r H' := fun w E vs hh hl => h w E vs hh (hw.LL hl)
/-- A result that says less. -/
theorem SoundAt.post {args : List C} {r r' : C} (h : SoundAt P f H args r H') (hw : WC r r') : SoundAt P f H args r' H' := fun w E vs hh hl => (h w E vs hh hl).mono fun e w' ⟨v, E', h1, h2, h3, h4⟩ => ⟨v, E', h1, h2, hw E' v h3, h4⟩

theorem toNat_cast (n : Nat) : ((n : Int)).toNat = n := by simp

end
end Go.Ab
