/- What is handed in, type by type: rows of what went, listeners, numbers, texts. -/
import Derived.Test.YtblcehhggncmaaaAbO
import Derived.Test.YtblcehhggncmaaaApi
import Derived.Test.YtblcehhggncmaaaProg
namespace Go.Hy
open Go.Ab Go.Proofs
set_option linter.unusedVariables false

theorem wf_i64 {n : Int} (h : (Lit.int .i64 n).wf = true) : i64 n := by
  simpa [Lit.wf, IntKind.min, IntKind.max, IntKind.signed, IntKind.bits, i64] using h
theorem wf_u64 {n : Int} (h : (Lit.int .u64 n).wf = true) : u64 n := by
  simpa [Lit.wf, IntKind.min, IntKind.max, IntKind.signed, IntKind.bits, u64] using h


theorem open_Str : Opens Try.prog 9 (fun s : Str => [Tx s]) (fun s => s.length ≤ reachBytes) :=
  Opens.map (Opens.string Try.underlying9) (fun s => s.data.toList) fun s h => ⟨h, rfl⟩
theorem arg_Str : OpenArg Try.prog 9 Tx (fun s : Str => s.length ≤ reachBytes) := Opens.argOne (c := Tx) open_Str fun w base v hv => by obtain ⟨n, rfl⟩ := WideShapes.okWide_string Try.underlying9 hv; rfl

theorem open_Ret : Opens Try.prog 61 encR Ret.ok :=
  Opens.map (Opens.struct Try.underlying61 (by kernel_rfl) (OpensF.cons rfl (Opens.int Try.underlying3) (OpensF.cons rfl (Opens.int Try.underlying3) (OpensF.cons rfl (Opens.bool Try.underlying4) (OpensF.nil _))))) (fun x => ⟨x.1, x.2.1, x.2.2.1⟩) fun x h => ⟨⟨wf_i64 h.1, wf_i64 h.2.1⟩, rfl⟩

theorem open_lRet : Opens Try.prog 34 (fun l : List Ret => [lR l]) (fun l => (∀ x ∈ l, x.ok) ∧ l.length * 24 ≤ reachBytes) :=
  Opens.slice (sz := 3) (by_ := 24) Try.underlying34 (by kernel_rfl) (by kernel_rfl) (by decide) (fun _ => rfl) open_Ret

theorem arg_lRet : OpenArg Try.prog 34 lR (fun l : List Ret => (∀ x ∈ l, x.ok) ∧ l.length * 24 ≤ reachBytes) := Opens.argSlice Try.underlying34 open_lRet
theorem arg_int : OpenArg Try.prog 3 I (fun n => (Lit.int .i64 n).wf = true) := Opens.argInt Try.underlying3

theorem open_Lis : Opens Try.prog 46 encL Lis.ok :=
  Opens.map (Opens.struct Try.underlying46 (by kernel_rfl) (OpensF.cons rfl (open_Str) (OpensF.cons rfl (Opens.bool Try.underlying4) (OpensF.cons rfl (Opens.int Try.underlying3) (OpensF.cons rfl (Opens.bool Try.underlying4) (OpensF.nil _)))))) (fun x => ⟨x.1, x.2.1, x.2.2.1, x.2.2.2.1⟩) fun x h => ⟨⟨h.1, wf_i64 h.2.2.1⟩, rfl⟩
theorem open_lLis : Opens Try.prog 47 (fun l : List Lis => [lL l]) (fun l => (∀ x ∈ l, x.ok) ∧ l.length * 40 ≤ reachBytes) :=
  Opens.slice (sz := 4) (by_ := 40) Try.underlying47 (by kernel_rfl) (by kernel_rfl) (by decide) (fun _ => rfl) open_Lis
theorem arg_Lis : OpenArg Try.prog 46 (fun x => .agg (encL x)) Lis.ok := Opens.argStruct Try.underlying46 open_Lis
theorem arg_lLis : OpenArg Try.prog 47 lL (fun l : List Lis => (∀ x ∈ l, x.ok) ∧ l.length * 40 ≤ reachBytes) := Opens.argSlice Try.underlying47 open_lLis
theorem open_lI : Opens Try.prog 40 (fun l : List Int => [lI l]) (fun l => (∀ x ∈ l, (Lit.int .i64 x).wf = true) ∧ l.length * 8 ≤ reachBytes) :=
  Opens.slice (sz := 1) (by_ := 8) Try.underlying40 (by kernel_rfl) (by kernel_rfl) (by decide) (fun _ => rfl) (Opens.int Try.underlying3)
theorem arg_lI : OpenArg Try.prog 40 lI (fun l : List Int => (∀ x ∈ l, (Lit.int .i64 x).wf = true) ∧ l.length * 8 ≤ reachBytes) := Opens.argSlice Try.underlying40 open_lI

end Go.Hy
