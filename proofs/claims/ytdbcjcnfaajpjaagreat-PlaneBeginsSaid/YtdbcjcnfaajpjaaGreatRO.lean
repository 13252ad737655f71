import Derived.Test.YtdbcjcnfaajpjaaGreatRJ
import Derived.Test.YtdbcjcnfaajpjaaGreatProg
namespace Go.Hy
open Go.Ab Go.Proofs
set_option linter.unusedVariables false
set_option maxRecDepth 20000
theorem open_Str : Opens Tryz.prog 9 (fun s : Str => [Tx s]) (fun s => s.length ≤ reachBytes) :=
  Opens.map (Opens.string Tryz.underlying9) (fun s => s.data.toList) fun s h => ⟨h, rfl⟩
theorem arg_int : OpenArg Tryz.prog 3 I (fun n => (Lit.int .i64 n).wf = true) := Opens.argInt Tryz.underlying3
end Go.Hy
namespace Go.Hy
open Go.Ab Go.Proofs
set_option linter.unusedVariables false
set_option maxRecDepth 20000
end Go.Hy
namespace Go.Hy
open Go.Ab Go.Proofs
set_option linter.unusedVariables false
set_option maxRecDepth 20000
theorem weights_same {P : Program} {e : TypeId} {H X : Type} (f : Nat → Option (DataW H × X)) : ∀ (is : List Nat) (xs : List (DataW H × X)), is.mapM f = some xs → DataW.weightsEach P (is.map fun _ => e) (xs.map (·.1)) = DataW.weightsAll P e (xs.map (·.1))
  | [], xs, h => by
    rw [List.mapM_nil] at h
    cases h
    rfl
  | i :: is, xs, h => by
    rw [List.mapM_cons] at h
    cases h1 : f i with
    | none => rw [h1] at h; cases h
    | some x =>
      rw [h1] at h
      cases h2 : is.mapM f with
      | none => rw [h2] at h; cases h
      | some r =>
        rw [h2] at h
        cases h
        simp only [List.map_cons, DataW.weightsEach, DataW.weightsAll, weights_same f is r h2]
def fieldAt (P : Program) (e : TypeId) (i : Nat) : Field := { (default : Field) with type := e, offset := i * P.cellsOf e }
theorem Opens.array {P : Program} {t e : TypeId} {n : Nat} {α : Type} {enc : α → List C} {wf : α → Prop} (ht : P.underlying t = some (.array n e)) (hc : P.cellsOf t = (((List.range n).map (fieldAt P e)).map fun f => P.cellsOf f.type).sum) (h : OpensF P ((List.range n).map (fieldAt P e)) 0 enc wf) : Opens P t enc wf := by
  intro H eH w fuel cs d ps hr hf
  cases fuel with
  | zero => cases hr
  | succ fuel =>
    unfold DataW.trod at hr
    rw [ht] at hr
    dsimp only at hr
    split at hr
    · rename_i hl
      cases h2 : ((List.range n).mapM fun i => DataW.trod eH P w 0 (fun _ => true) true fuel e ((cs.drop (i * P.cellsOf e)).take (P.cellsOf e))) with
      | none => rw [h2] at hr; cases hr
      | some xs =>
        rw [h2] at hr
        cases hr
        have h3 : (((List.range n).map (fieldAt P e)).mapM fun f => DataW.trod eH P w 0 (fun _ => true) true fuel f.type ((cs.drop f.offset).take (P.cellsOf f.type))) = some xs := by
          rw [List.mapM_map]; exact h2
        have h4 : (DataW.weightsEach P (((List.range n).map (fieldAt P e)).map (·.type)) (xs.map (·.1))).all (· ≤ reachBytes) = true := by
          have e1 : ((List.range n).map (fieldAt P e)).map (·.type) = (List.range n).map fun _ => e := by rw [List.map_map]; rfl
          rw [e1, weights_same _ _ _ h2]
          simpa [fits, DataW.weights, ht] using hf
        obtain ⟨x, h5, h6, h7⟩ := h eH w fuel cs xs h3 h4 (by rw [hl, hc]; simp)
        exact ⟨x, h5, by simpa using h6, by simpa using h7⟩
    · cases hr
def Six.ok (s : Six) : Prop := True
def Eve.ok (e : Eve) : Prop := True
theorem open_Six : Opens Tryz.prog 33 encX (fun _ => True) :=
  Opens.map (Opens.array Tryz.underlying33 (by kernel_rfl) (OpensF.cons rfl (Opens.int Tryz.underlying32) (OpensF.cons rfl (Opens.int Tryz.underlying32) (OpensF.cons rfl (Opens.int Tryz.underlying32) (OpensF.cons rfl (Opens.int Tryz.underlying32) (OpensF.cons rfl (Opens.int Tryz.underlying32) (OpensF.cons rfl (Opens.int Tryz.underlying32) (OpensF.nil _)))))))) (fun x => ⟨x.1, x.2.1, x.2.2.1, x.2.2.2.1, x.2.2.2.2.1, x.2.2.2.2.2.1⟩) fun x h => ⟨trivial, rfl⟩
theorem open_Ans : Opens Tryz.prog 35 encA (fun _ => True) :=
  Opens.map (Opens.struct Tryz.underlying35 (by kernel_rfl) (OpensF.cons rfl (Opens.int Tryz.underlying3) (OpensF.cons rfl (Opens.int Tryz.underlying3) (OpensF.cons rfl (Opens.int Tryz.underlying3) (OpensF.cons rfl (Opens.int Tryz.underlying3) (OpensF.cons rfl (Opens.int Tryz.underlying3) (OpensF.cons rfl (Opens.int Tryz.underlying3) (OpensF.cons rfl (Opens.int Tryz.underlying3) (OpensF.cons rfl open_Six (OpensF.nil _)))))))))) (fun x => ⟨x.1, x.2.1, x.2.2.1, x.2.2.2.1, x.2.2.2.2.1, x.2.2.2.2.2.1, x.2.2.2.2.2.2.1, x.2.2.2.2.2.2.2.1⟩) fun x h => ⟨trivial, by simp [encA, encX]⟩
end Go.Hy
namespace Go.Hy
open Go.Ab Go.Proofs
set_option linter.unusedVariables false
set_option maxRecDepth 20000
def StrOk (s : Str) : Prop := s.length ≤ reachBytes
def Clu.ok (c : Clu) : Prop := c.name.length ≤ reachBytes ∧ c.health.length ≤ reachBytes
def Rou.ok (r : Rou) : Prop := r.listen.length ≤ reachBytes ∧ r.host.length ≤ reachBytes ∧ r.path.length ≤ reachBytes ∧ r.cluster.length ≤ reachBytes
def Cfg.ok (c : Cfg) : Prop := ((∀ s ∈ c.listens, StrOk s) ∧ c.listens.length * 16 ≤ reachBytes) ∧ ((∀ r ∈ c.routes, r.ok) ∧ c.routes.length * 64 ≤ reachBytes) ∧ ((∀ x ∈ c.clusters, x.ok) ∧ c.clusters.length * 56 ≤ reachBytes)
def Opn.ok (o : Opn) : Prop := o.listen.length ≤ reachBytes ∧ o.host.length ≤ reachBytes ∧ o.path.length ≤ reachBytes ∧ o.config.ok
theorem open_B : Opens Tryz.prog 4 encB (fun _ => True) := Opens.map (Opens.bool Tryz.underlying4) (fun b => b) fun b h => ⟨trivial, rfl⟩
theorem open_lB : Opens Tryz.prog 80 (fun l : List Bool => [lB l]) (fun l => (∀ x ∈ l, True) ∧ l.length * 1 ≤ reachBytes) :=
  Opens.slice (sz := 1) (by_ := 1) Tryz.underlying80 (by kernel_rfl) (by kernel_rfl) (by decide) (fun _ => rfl) open_B
theorem open_T : Opens Tryz.prog 9 encT StrOk := Opens.map (Opens.string Tryz.underlying9) (fun s => s.data.toList) fun s h => ⟨h, rfl⟩
theorem open_lT : Opens Tryz.prog 22 (fun l : List Str => [lT l]) (fun l => (∀ x ∈ l, StrOk x) ∧ l.length * 16 ≤ reachBytes) :=
  Opens.slice (sz := 1) (by_ := 16) Tryz.underlying22 (by kernel_rfl) (by kernel_rfl) (by decide) (fun _ => rfl) open_T
theorem open_Clu : Opens Tryz.prog 82 encC Clu.ok :=
  Opens.map (Opens.struct Tryz.underlying82 (by kernel_rfl) (OpensF.cons rfl (open_Str) (OpensF.cons rfl (Opens.int Tryz.underlying3) (OpensF.cons rfl (Opens.int Tryz.underlying3) (OpensF.cons rfl open_lB (OpensF.nil _)))))) (fun x => ⟨x.1, x.2.1, x.2.2.1, x.2.2.2.1⟩) fun x h => ⟨⟨h.1, by have := h.2.2.2.1.2; rw [Nat.mul_one] at this; exact this⟩, rfl⟩
theorem open_lC : Opens Tryz.prog 24 (fun l : List Clu => [lC l]) (fun l => (∀ x ∈ l, x.ok) ∧ l.length * 56 ≤ reachBytes) :=
  Opens.slice (sz := 4) (by_ := 56) Tryz.underlying24 (by kernel_rfl) (by kernel_rfl) (by decide) (fun _ => rfl) open_Clu
theorem open_Rou : Opens Tryz.prog 84 encO Rou.ok :=
  Opens.map (Opens.struct Tryz.underlying84 (by kernel_rfl) (OpensF.cons rfl (open_Str) (OpensF.cons rfl (open_Str) (OpensF.cons rfl (open_Str) (OpensF.cons rfl (open_Str) (OpensF.nil _)))))) (fun x => ⟨x.1, x.2.1, x.2.2.1, x.2.2.2.1⟩) fun x h => ⟨⟨h.1, h.2.1, h.2.2.1, h.2.2.2.1⟩, rfl⟩
theorem open_lO : Opens Tryz.prog 23 (fun l : List Rou => [lO l]) (fun l => (∀ x ∈ l, x.ok) ∧ l.length * 64 ≤ reachBytes) :=
  Opens.slice (sz := 4) (by_ := 64) Tryz.underlying23 (by kernel_rfl) (by kernel_rfl) (by decide) (fun _ => rfl) open_Rou
theorem open_Cfg : Opens Tryz.prog 26 encF Cfg.ok :=
  Opens.map (Opens.struct Tryz.underlying26 (by kernel_rfl) (OpensF.cons rfl open_lT (OpensF.cons rfl open_lO (OpensF.cons rfl open_lC (OpensF.nil _))))) (fun x => ⟨x.1, x.2.1, x.2.2.1⟩) fun x h => ⟨⟨h.1, h.2.1, h.2.2.1⟩, rfl⟩
theorem open_Opn : Opens Tryz.prog 28 encP Opn.ok :=
  Opens.map (Opens.struct Tryz.underlying28 (by kernel_rfl) (OpensF.cons rfl (Opens.int Tryz.underlying3) (OpensF.cons rfl (open_Str) (OpensF.cons rfl (open_Str) (OpensF.cons rfl (open_Str) (OpensF.cons rfl (Opens.int Tryz.underlying3) (OpensF.cons rfl (Opens.int Tryz.underlying3) (OpensF.cons rfl (Opens.int Tryz.underlying3) (OpensF.cons rfl open_Cfg (OpensF.nil _)))))))))) (fun x => ⟨x.1, x.2.1, x.2.2.1, x.2.2.2.1, x.2.2.2.2.1, x.2.2.2.2.2.1, x.2.2.2.2.2.2.1, x.2.2.2.2.2.2.2.1⟩) fun x h => ⟨⟨h.2.1, h.2.2.1, h.2.2.2.1, h.2.2.2.2.2.2.2.1⟩, by simp [encP]⟩
theorem arg_lA : OpenArg Tryz.prog 29 lA (fun l : List Ans => (∀ x ∈ l, True) ∧ l.length * 104 ≤ reachBytes) :=
  Opens.argSlice Tryz.underlying29 (Opens.slice (sz := 13) (by_ := 104) Tryz.underlying29 (by kernel_rfl) (by kernel_rfl) (by decide) (fun _ => rfl) open_Ans)
def Scr.ok (s : Scr) : Prop := s.first.ok ∧ ((∀ x ∈ s.threads, (∀ o ∈ x, o.ok) ∧ x.length * 152 ≤ reachBytes) ∧ s.threads.length * 24 ≤ reachBytes)
end Go.Hy
namespace Go.Hy
open Go.Ab Go.Proofs
set_option linter.unusedVariables false
set_option maxRecDepth 100000
set_option maxHeartbeats 4000000
theorem arg_Opn : OpenArg Tryz.prog 28 (fun x => .agg (encP x)) Opn.ok := Opens.argStruct Tryz.underlying28 open_Opn
end Go.Hy
