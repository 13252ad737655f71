/- What is handed in, type by type: numbers and texts. -/
import Derived.Test.YtbndjpkncgfpiaaAbO
import Derived.Test.YtbndjpkncgfpiaaApi
import Derived.Test.YtbndjpkncgfpiaaProg
namespace Go.Hy
open Go.Ab Go.Proofs
set_option linter.unusedVariables false
set_option maxRecDepth 20000

theorem wf_i64 {n : Int} (h : (Lit.int .i64 n).wf = true) : i64 n := by
  simpa [Lit.wf, IntKind.min, IntKind.max, IntKind.signed, IntKind.bits, i64] using h
theorem wf_u64 {n : Int} (h : (Lit.int .u64 n).wf = true) : u64 n := by
  simpa [Lit.wf, IntKind.min, IntKind.max, IntKind.signed, IntKind.bits, u64] using h


theorem open_Str : Opens Try.prog 9 (fun s : Str => [Tx s]) (fun s => s.length ≤ reachBytes) :=
  Opens.map (Opens.string Try.underlying9) (fun s => s.data.toList) fun s h => ⟨h, rfl⟩
theorem arg_Str : OpenArg Try.prog 9 Tx (fun s : Str => s.length ≤ reachBytes) := Opens.argOne (c := Tx) open_Str fun w base v hv => by obtain ⟨n, rfl⟩ := WideShapes.okWide_string Try.underlying9 hv; rfl

theorem arg_int : OpenArg Try.prog 3 I (fun n => (Lit.int .i64 n).wf = true) := Opens.argInt Try.underlying3

theorem wf_u8 {n : Int} (h : (Lit.int .u8 n).wf = true) : 0 ≤ n ∧ n ≤ 255 := by
  simpa [Lit.wf, IntKind.min, IntKind.max, IntKind.signed, IntKind.bits] using h
/-- A byte. -/
theorem open_U8 : Opens Try.prog 5 (fun b : UInt8 => [.v (.int .u8 (b.toNat : Int))]) (fun _ => True) :=
  Opens.map (Opens.int Try.underlying5) (fun n => n.toNat.toUInt8) fun n h => ⟨trivial, by
    have := wf_u8 h
    have e : ((n.toNat.toUInt8.toNat : Nat) : Int) = n := by
      rw [Nat.toUInt8, UInt8.toNat_ofNat']
      omega
    rw [e]⟩
theorem arg_U8 : OpenArg Try.prog 5 (fun b : UInt8 => .v (.int .u8 (b.toNat : Int))) (fun _ => True) := Opens.argOne (c := fun b : UInt8 => .v (.int .u8 (b.toNat : Int))) open_U8 fun w base v hv => by obtain ⟨n, rfl⟩ := WideShapes.okWide_int Try.underlying5 hv; rfl

end Go.Hy
