/- What is handed in, type by type: events of a trace. -/
import Derived.Test.YtbndjpkncgfpiaaOpnI
namespace Go.Hy
open Go.Ab Go.Proofs
set_option linter.unusedVariables false
set_option maxRecDepth 20000

theorem weights_same {P : Program} {e : TypeId} {H X : Type} (f : Nat → Option (DataW H × X)) : ∀ (is : List Nat) (xs : List (DataW H × X)), is.mapM f = some xs → DataW.weightsEach P (is.map fun _ => e) (xs.map (·.1)) = DataW.weightsAll P e (xs.map (·.1))
  | [], xs, h => by
    rw [List.mapM_nil] at h
    cases h
    rfl
  | i :: is, xs, h => by
    rw [List.mapM_cons] at h
    cases h1 : f i with
    | none => rw [h1] at h; cases h
    | some x =>
      rw [h1] at h
      cases h2 : is.mapM f with
      | none => rw [h2] at h; cases h
      | some r =>
        rw [h2] at h
        cases h
        simp only [List.map_cons, DataW.weightsEach, DataW.weightsAll, weights_same f is r h2]

def fieldAt (P : Program) (e : TypeId) (i : Nat) : Field := { (default : Field) with type := e, offset := i * P.cellsOf e }

theorem Opens.array {P : Program} {t e : TypeId} {n : Nat} {α : Type} {enc : α → List C} {wf : α → Prop} (ht : P.underlying t = some (.array n e)) (hc : P.cellsOf t = (((List.range n).map (fieldAt P e)).map fun f => P.cellsOf f.type).sum) (h : OpensF P ((List.range n).map (fieldAt P e)) 0 enc wf) : Opens P t enc wf := by
  intro H eH w fuel cs d ps hr hf
  cases fuel with
  | zero => cases hr
  | succ fuel =>
    unfold DataW.trod at hr
    rw [ht] at hr
    dsimp only at hr
    split at hr
    · rename_i hl
      cases h2 : ((List.range n).mapM fun i => DataW.trod eH P w 0 (fun _ => true) true fuel e ((cs.drop (i * P.cellsOf e)).take (P.cellsOf e))) with
      | none => rw [h2] at hr; cases hr
      | some xs =>
        rw [h2] at hr
        cases hr
        have h3 : (((List.range n).map (fieldAt P e)).mapM fun f => DataW.trod eH P w 0 (fun _ => true) true fuel f.type ((cs.drop f.offset).take (P.cellsOf f.type))) = some xs := by
          rw [List.mapM_map]; exact h2
        have h4 : (DataW.weightsEach P (((List.range n).map (fieldAt P e)).map (·.type)) (xs.map (·.1))).all (· ≤ reachBytes) = true := by
          have e1 : ((List.range n).map (fieldAt P e)).map (·.type) = (List.range n).map fun _ => e := by rw [List.map_map]; rfl
          rw [e1, weights_same _ _ _ h2]
          simpa [fits, DataW.weights, ht] using hf
        obtain ⟨x, h5, h6, h7⟩ := h eH w fuel cs xs h3 h4 (by rw [hl, hc]; simp)
        exact ⟨x, h5, by simpa using h6, by simpa using h7⟩
    · cases hr

def Six.ok (s : Six) : Prop := True
def Eve.ok (e : Eve) : Prop := True
theorem open_Six : Opens Try.prog 34 encX (fun _ => True) :=
  Opens.map (Opens.array Try.underlying34 (by kernel_rfl) (OpensF.cons rfl (Opens.int Try.underlying33) (OpensF.cons rfl (Opens.int Try.underlying33) (OpensF.cons rfl (Opens.int Try.underlying33) (OpensF.cons rfl (Opens.int Try.underlying33) (OpensF.cons rfl (Opens.int Try.underlying33) (OpensF.cons rfl (Opens.int Try.underlying33) (OpensF.nil _)))))))) (fun x => ⟨x.1, x.2.1, x.2.2.1, x.2.2.2.1, x.2.2.2.2.1, x.2.2.2.2.2.1⟩) fun x h => ⟨trivial, rfl⟩
theorem open_Ans : Opens Try.prog 36 encA (fun _ => True) :=
  Opens.map (Opens.struct Try.underlying36 (by kernel_rfl) (OpensF.cons rfl (Opens.int Try.underlying3) (OpensF.cons rfl (Opens.int Try.underlying3) (OpensF.cons rfl (Opens.int Try.underlying3) (OpensF.cons rfl (Opens.int Try.underlying3) (OpensF.cons rfl (Opens.int Try.underlying3) (OpensF.cons rfl (Opens.int Try.underlying3) (OpensF.cons rfl (Opens.int Try.underlying3) (OpensF.cons rfl open_Six (OpensF.nil _)))))))))) (fun x => ⟨x.1, x.2.1, x.2.2.1, x.2.2.2.1, x.2.2.2.2.1, x.2.2.2.2.2.1, x.2.2.2.2.2.2.1, x.2.2.2.2.2.2.2.1⟩) fun x h => ⟨trivial, by simp [encA, encX]⟩
theorem open_Eve : Opens Try.prog 42 encEv (fun _ => True) :=
  Opens.map (Opens.struct Try.underlying42 (by kernel_rfl) (OpensF.cons rfl (Opens.int Try.underlying3) (OpensF.cons rfl (Opens.int Try.underlying3) (OpensF.cons rfl (Opens.int Try.underlying3) (OpensF.cons rfl (Opens.int Try.underlying3) (OpensF.cons rfl (Opens.int Try.underlying3) (OpensF.cons rfl (Opens.bool Try.underlying4) (OpensF.cons rfl (Opens.int Try.underlying3) (OpensF.cons rfl (Opens.bool Try.underlying4) (OpensF.cons rfl (Opens.bool Try.underlying4) (OpensF.cons rfl (Opens.bool Try.underlying4) (OpensF.cons rfl open_Ans (OpensF.nil _))))))))))))) (fun x => ⟨x.1, x.2.1, x.2.2.1, x.2.2.2.1, x.2.2.2.2.1, x.2.2.2.2.2.1, x.2.2.2.2.2.2.1, x.2.2.2.2.2.2.2.1, x.2.2.2.2.2.2.2.2.1, x.2.2.2.2.2.2.2.2.2.1, x.2.2.2.2.2.2.2.2.2.2.1⟩) fun x h => ⟨trivial, by simp [encEv]⟩
theorem arg_lEv : OpenArg Try.prog 28 lEv (fun l : List Eve => (∀ x ∈ l, True) ∧ l.length * 168 ≤ reachBytes) :=
  Opens.argSlice Try.underlying28 (Opens.slice (sz := 23) (by_ := 168) Try.underlying28 (by kernel_rfl) (by kernel_rfl) (by decide) (fun _ => rfl) open_Eve)

end Go.Hy
