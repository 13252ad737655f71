/- Joined: OpnS OpnI OpnV. -/
import Derived.Test.YtdbcjcnfaajpjaaQD
import Derived.Test.YtdbcjcnfaajpjaaProg
/- What is handed in, type by type: numbers and texts. -/
namespace Go.Hy
open Go.Ab Go.Proofs
set_option linter.unusedVariables false
set_option maxRecDepth 20000

theorem wf_i64 {n : Int} (h : (Lit.int .i64 n).wf = true) : i64 n := by
  simpa [Lit.wf, IntKind.min, IntKind.max, IntKind.signed, IntKind.bits, i64] using h
theorem wf_u64 {n : Int} (h : (Lit.int .u64 n).wf = true) : u64 n := by
  simpa [Lit.wf, IntKind.min, IntKind.max, IntKind.signed, IntKind.bits, u64] using h


theorem open_Str : Opens Try.prog 9 (fun s : Str => [Tx s]) (fun s => s.length ≤ reachBytes) :=
  Opens.map (Opens.string Try.underlying9) (fun s => s.data.toList) fun s h => ⟨h, rfl⟩
theorem arg_Str : OpenArg Try.prog 9 Tx (fun s : Str => s.length ≤ reachBytes) := Opens.argOne (c := Tx) open_Str fun w base v hv => by obtain ⟨n, rfl⟩ := WideShapes.okWide_string Try.underlying9 hv; rfl

theorem arg_int : OpenArg Try.prog 3 I (fun n => (Lit.int .i64 n).wf = true) := Opens.argInt Try.underlying3

theorem wf_u8 {n : Int} (h : (Lit.int .u8 n).wf = true) : 0 ≤ n ∧ n ≤ 255 := by
  simpa [Lit.wf, IntKind.min, IntKind.max, IntKind.signed, IntKind.bits] using h
/-- A byte. -/
theorem open_U8 : Opens Try.prog 5 (fun b : UInt8 => [.v (.int .u8 (b.toNat : Int))]) (fun _ => True) :=
  Opens.map (Opens.int Try.underlying5) (fun n => n.toNat.toUInt8) fun n h => ⟨trivial, by
    have := wf_u8 h
    have e : ((n.toNat.toUInt8.toNat : Nat) : Int) = n := by
      rw [Nat.toUInt8, UInt8.toNat_ofNat']
      omega
    rw [e]⟩
theorem arg_U8 : OpenArg Try.prog 5 (fun b : UInt8 => .v (.int .u8 (b.toNat : Int))) (fun _ => True) := Opens.argOne (c := fun b : UInt8 => .v (.int .u8 (b.toNat : Int))) open_U8 fun w base v hv => by obtain ⟨n, rfl⟩ := WideShapes.okWide_int Try.underlying5 hv; rfl

end Go.Hy

/- What is handed in, type by type: rows of numbers. -/
namespace Go.Hy
open Go.Ab Go.Proofs
set_option linter.unusedVariables false
set_option maxRecDepth 20000

theorem open_lI : Opens Try.prog 35 (fun l : List Int => [lI l]) (fun l => (∀ x ∈ l, (Lit.int .i64 x).wf = true) ∧ l.length * 8 ≤ reachBytes) :=
  Opens.slice (sz := 1) (by_ := 8) Try.underlying35 (by kernel_rfl) (by kernel_rfl) (by decide) (fun _ => rfl) (Opens.int Try.underlying3)
theorem arg_lI : OpenArg Try.prog 35 lI (fun l : List Int => (∀ x ∈ l, (Lit.int .i64 x).wf = true) ∧ l.length * 8 ≤ reachBytes) := Opens.argSlice Try.underlying35 open_lI


end Go.Hy

/- What is handed in, type by type: events of a trace. -/
namespace Go.Hy
open Go.Ab Go.Proofs
set_option linter.unusedVariables false
set_option maxRecDepth 20000

theorem weights_same {P : Program} {e : TypeId} {H X : Type} (f : Nat → Option (DataW H × X)) : ∀ (is : List Nat) (xs : List (DataW H × X)), is.mapM f = some xs → DataW.weightsEach P (is.map fun _ => e) (xs.map (·.1)) = DataW.weightsAll P e (xs.map (·.1))
  | [], xs, h => by
    rw [List.mapM_nil] at h
    cases h
    rfl
  | i :: is, xs, h => by
    rw [List.mapM_cons] at h
    cases h1 : f i with
    | none => rw [h1] at h; cases h
    | some x =>
      rw [h1] at h
      cases h2 : is.mapM f with
      | none => rw [h2] at h; cases h
      | some r =>
        rw [h2] at h
        cases h
        simp only [List.map_cons, DataW.weightsEach, DataW.weightsAll, weights_same f is r h2]

def fieldAt (P : Program) (e : TypeId) (i : Nat) : Field := { (default : Field) with type := e, offset := i * P.cellsOf e }

theorem Opens.array {P : Program} {t e : TypeId} {n : Nat} {α : Type} {enc : α → List C} {wf : α → Prop} (ht : P.underlying t = some (.array n e)) (hc : P.cellsOf t = (((List.range n).map (fieldAt P e)).map fun f => P.cellsOf f.type).sum) (h : OpensF P ((List.range n).map (fieldAt P e)) 0 enc wf) : Opens P t enc wf := by
  intro H eH w fuel cs d ps hr hf
  cases fuel with
  | zero => cases hr
  | succ fuel =>
    unfold DataW.trod at hr
    rw [ht] at hr
    dsimp only at hr
    split at hr
    · rename_i hl
      cases h2 : ((List.range n).mapM fun i => DataW.trod eH P w 0 (fun _ => true) true fuel e ((cs.drop (i * P.cellsOf e)).take (P.cellsOf e))) with
      | none => rw [h2] at hr; cases hr
      | some xs =>
        rw [h2] at hr
        cases hr
        have h3 : (((List.range n).map (fieldAt P e)).mapM fun f => DataW.trod eH P w 0 (fun _ => true) true fuel f.type ((cs.drop f.offset).take (P.cellsOf f.type))) = some xs := by
          rw [List.mapM_map]; exact h2
        have h4 : (DataW.weightsEach P (((List.range n).map (fieldAt P e)).map (·.type)) (xs.map (·.1))).all (· ≤ reachBytes) = true := by
          have e1 : ((List.range n).map (fieldAt P e)).map (·.type) = (List.range n).map fun _ => e := by rw [List.map_map]; rfl
          rw [e1, weights_same _ _ _ h2]
          simpa [fits, DataW.weights, ht] using hf
        obtain ⟨x, h5, h6, h7⟩ := h eH w fuel cs xs h3 h4 (by rw [hl, hc]; simp)
        exact ⟨x, h5, by simpa using h6, by simpa using h7⟩
    · cases hr

def Six.ok (s : Six) : Prop := True
def Eve.ok (e : Eve) : Prop := True
theorem open_Six : Opens Try.prog 37 encX (fun _ => True) :=
  Opens.map (Opens.array Try.underlying37 (by kernel_rfl) (OpensF.cons rfl (Opens.int Try.underlying36) (OpensF.cons rfl (Opens.int Try.underlying36) (OpensF.cons rfl (Opens.int Try.underlying36) (OpensF.cons rfl (Opens.int Try.underlying36) (OpensF.cons rfl (Opens.int Try.underlying36) (OpensF.cons rfl (Opens.int Try.underlying36) (OpensF.nil _)))))))) (fun x => ⟨x.1, x.2.1, x.2.2.1, x.2.2.2.1, x.2.2.2.2.1, x.2.2.2.2.2.1⟩) fun x h => ⟨trivial, rfl⟩
theorem open_Ans : Opens Try.prog 39 encA (fun _ => True) :=
  Opens.map (Opens.struct Try.underlying39 (by kernel_rfl) (OpensF.cons rfl (Opens.int Try.underlying3) (OpensF.cons rfl (Opens.int Try.underlying3) (OpensF.cons rfl (Opens.int Try.underlying3) (OpensF.cons rfl (Opens.int Try.underlying3) (OpensF.cons rfl (Opens.int Try.underlying3) (OpensF.cons rfl (Opens.int Try.underlying3) (OpensF.cons rfl (Opens.int Try.underlying3) (OpensF.cons rfl open_Six (OpensF.nil _)))))))))) (fun x => ⟨x.1, x.2.1, x.2.2.1, x.2.2.2.1, x.2.2.2.2.1, x.2.2.2.2.2.1, x.2.2.2.2.2.2.1, x.2.2.2.2.2.2.2.1⟩) fun x h => ⟨trivial, by simp [encA, encX]⟩
theorem open_Eve : Opens Try.prog 49 encEv (fun _ => True) :=
  Opens.map (Opens.struct Try.underlying49 (by kernel_rfl) (OpensF.cons rfl (Opens.int Try.underlying3) (OpensF.cons rfl (Opens.int Try.underlying3) (OpensF.cons rfl (Opens.int Try.underlying3) (OpensF.cons rfl (Opens.int Try.underlying3) (OpensF.cons rfl (Opens.int Try.underlying3) (OpensF.cons rfl (Opens.bool Try.underlying4) (OpensF.cons rfl (Opens.int Try.underlying3) (OpensF.cons rfl (Opens.bool Try.underlying4) (OpensF.cons rfl (Opens.bool Try.underlying4) (OpensF.cons rfl (Opens.bool Try.underlying4) (OpensF.cons rfl open_Ans (OpensF.nil _))))))))))))) (fun x => ⟨x.1, x.2.1, x.2.2.1, x.2.2.2.1, x.2.2.2.2.1, x.2.2.2.2.2.1, x.2.2.2.2.2.2.1, x.2.2.2.2.2.2.2.1, x.2.2.2.2.2.2.2.2.1, x.2.2.2.2.2.2.2.2.2.1, x.2.2.2.2.2.2.2.2.2.2.1⟩) fun x h => ⟨trivial, by simp [encEv]⟩
theorem arg_lEv : OpenArg Try.prog 22 lEv (fun l : List Eve => (∀ x ∈ l, True) ∧ l.length * 168 ≤ reachBytes) :=
  Opens.argSlice Try.underlying22 (Opens.slice (sz := 23) (by_ := 168) Try.underlying22 (by kernel_rfl) (by kernel_rfl) (by decide) (fun _ => rfl) open_Eve)

end Go.Hy

