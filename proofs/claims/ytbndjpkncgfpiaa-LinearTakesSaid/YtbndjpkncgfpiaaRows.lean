/-
  No cell of these rows narrows 'for every input' (looked for: loops, veiled, ifaces, maps, wideKeys, modest, calm, conditions, laid).
  DERIVED. THE GIVEN ROWS OF THIS SEAT. 6 by the template 'for every input the law returns true; each argument reads behind the call as it read before'; 0 by the template 'total and deterministic' (their statements: YtbndjpkncgfpiaaTotals.lean).
  GIVEN WITH THE SEED: the statements are not yours to turn. If you find one false, say at which input.
  Laid BY PROGRAM, IN A SANDBOX (cutbox-rows.mjs): the forced cells as the released guide's own fill.sh prints them over the translation c2269e010c2065f5… (all of the seat's roots in one cut). By AI agents, Wed Nov 11 2026. No macro, syntax, notation, axiom, sorry.
-/
import Derived.Test.YtbndjpkncgfpiaaChecked
import GoSem.Claim
import GoSem.ClaimJoined
import GoSem.ClaimMapViews
import Derived.JoinedTies
import Derived.KernelRfl
namespace Go.Proofs.Ytbndjpkncgfpiaa
/- THE CELL 'sum', in the pinned program and in every row, IS THE sha256 OF THE DUMP (.gsa) THAT YtbndjpkncgfpiaaProg.lean LOADS. Nothing in Lean hashes anything: it is a label: what it is worth is what the hold of that sum in a sandbox is worth. -/
noncomputable def Try.pinned : Pinned := { name := "ytbndjpkncgfpiaa", sum := "c2269e010c2065f5b537c87e0fc51c141145ad8b369a6dfc433dace60ef3a9dc", checked := Try.checked }
namespace Rows
def none {H : Type} : Left H := { results := [], args := [] }

/-- 'hydrantlaw10.CallsOrder': WHATEVER THE INPUT: true; the input reads as it did. -/
def callsOrderSpec : ChangeSpec := { name := "callsOrder", fn := fun _ => fun
  | [d1, d2, d3] => { results := [.lit (.bool true)], args := [d1, d2, d3] }
  | _ => none }
def callsOrderRow : OpenClaim := { program := "ytbndjpkncgfpiaa", sum := "c2269e010c2065f5b537c87e0fc51c141145ad8b369a6dfc433dace60ef3a9dc", func := "hydrant/hydrantlaw10.CallsOrder", spec := "callsOrder", unfollowed := true, recurses := true, plainKeys := false, apart := false }
def CallsOrderSaid : Prop := callsOrderRow.holds Try.pinned (OpenSpec.ofChange callsOrderSpec)

/-- ITS FALSE NEIGHBOUR: 'it returns false'. Refute it at one input. -/
def callsOrderWrong : ChangeSpec := { name := "callsOrder", fn := fun _ => fun
  | [d1, d2, d3] => { results := [.lit (.bool false)], args := [d1, d2, d3] }
  | _ => none }
def CallsOrderWrongFalsely : Prop := callsOrderRow.holds Try.pinned (OpenSpec.ofChange callsOrderWrong)

/-- 'hydrantlaw10.CallsGo': WHATEVER THE INPUT: true; the input reads as it did. -/
def callsGoSpec : ChangeSpec := { name := "callsGo", fn := fun _ => fun
  | [d] => { results := [.lit (.bool true)], args := [d] }
  | _ => none }
def callsGoRow : OpenClaim := { program := "ytbndjpkncgfpiaa", sum := "c2269e010c2065f5b537c87e0fc51c141145ad8b369a6dfc433dace60ef3a9dc", func := "hydrant/hydrantlaw10.CallsGo", spec := "callsGo", unfollowed := true, recurses := true, plainKeys := false, apart := false }
def CallsGoSaid : Prop := callsGoRow.holds Try.pinned (OpenSpec.ofChange callsGoSpec)

/-- ITS FALSE NEIGHBOUR: 'it returns false'. Refute it at one input. -/
def callsGoWrong : ChangeSpec := { name := "callsGo", fn := fun _ => fun
  | [d] => { results := [.lit (.bool false)], args := [d] }
  | _ => none }
def CallsGoWrongFalsely : Prop := callsGoRow.holds Try.pinned (OpenSpec.ofChange callsGoWrong)

/-- 'hydrantlaw10.CallsFront': WHATEVER THE INPUT: true; the input reads as it did. -/
def callsFrontSpec : ChangeSpec := { name := "callsFront", fn := fun _ => fun
  | [d1, d2] => { results := [.lit (.bool true)], args := [d1, d2] }
  | _ => none }
def callsFrontRow : OpenClaim := { program := "ytbndjpkncgfpiaa", sum := "c2269e010c2065f5b537c87e0fc51c141145ad8b369a6dfc433dace60ef3a9dc", func := "hydrant/hydrantlaw10.CallsFront", spec := "callsFront", unfollowed := true, recurses := true, plainKeys := false, apart := false }
def CallsFrontSaid : Prop := callsFrontRow.holds Try.pinned (OpenSpec.ofChange callsFrontSpec)

/-- ITS FALSE NEIGHBOUR: 'it returns false'. Refute it at one input. -/
def callsFrontWrong : ChangeSpec := { name := "callsFront", fn := fun _ => fun
  | [d1, d2] => { results := [.lit (.bool false)], args := [d1, d2] }
  | _ => none }
def CallsFrontWrongFalsely : Prop := callsFrontRow.holds Try.pinned (OpenSpec.ofChange callsFrontWrong)

/-- 'hydrantlaw10.CallsCount': WHATEVER THE INPUT: true; the input reads as it did. -/
def callsCountSpec : ChangeSpec := { name := "callsCount", fn := fun _ => fun
  | [d] => { results := [.lit (.bool true)], args := [d] }
  | _ => none }
def callsCountRow : OpenClaim := { program := "ytbndjpkncgfpiaa", sum := "c2269e010c2065f5b537c87e0fc51c141145ad8b369a6dfc433dace60ef3a9dc", func := "hydrant/hydrantlaw10.CallsCount", spec := "callsCount", unfollowed := true, recurses := true, plainKeys := false, apart := false }
def CallsCountSaid : Prop := callsCountRow.holds Try.pinned (OpenSpec.ofChange callsCountSpec)

/-- ITS FALSE NEIGHBOUR: 'it returns false'. Refute it at one input. -/
def callsCountWrong : ChangeSpec := { name := "callsCount", fn := fun _ => fun
  | [d] => { results := [.lit (.bool false)], args := [d] }
  | _ => none }
def CallsCountWrongFalsely : Prop := callsCountRow.holds Try.pinned (OpenSpec.ofChange callsCountWrong)

/-- 'hydrantlaw28.SafeTells': WHATEVER THE INPUT: true; the input reads as it did. -/
def safeTellsSpec : ChangeSpec := { name := "safeTells", fn := fun _ => fun
  | [d] => { results := [.lit (.bool true)], args := [d] }
  | _ => none }
def safeTellsRow : OpenClaim := { program := "ytbndjpkncgfpiaa", sum := "c2269e010c2065f5b537c87e0fc51c141145ad8b369a6dfc433dace60ef3a9dc", func := "hydrant/hydrantlaw28.SafeTells", spec := "safeTells", unfollowed := true, recurses := true, plainKeys := false, apart := false }
def SafeTellsSaid : Prop := safeTellsRow.holds Try.pinned (OpenSpec.ofChange safeTellsSpec)

/-- ITS FALSE NEIGHBOUR: 'it returns false'. Refute it at one input. -/
def safeTellsWrong : ChangeSpec := { name := "safeTells", fn := fun _ => fun
  | [d] => { results := [.lit (.bool false)], args := [d] }
  | _ => none }
def SafeTellsWrongFalsely : Prop := safeTellsRow.holds Try.pinned (OpenSpec.ofChange safeTellsWrong)

/-- 'hydrantlaw29.LinearTakes': WHATEVER THE INPUT: true; the input reads as it did. -/
def linearTakesSpec : ChangeSpec := { name := "linearTakes", fn := fun _ => fun
  | [d1, d2, d3] => { results := [.lit (.bool true)], args := [d1, d2, d3] }
  | _ => none }
def linearTakesRow : OpenClaim := { program := "ytbndjpkncgfpiaa", sum := "c2269e010c2065f5b537c87e0fc51c141145ad8b369a6dfc433dace60ef3a9dc", func := "hydrant/hydrantlaw29.LinearTakes", spec := "linearTakes", inPlace := ["internal/bytealg.IndexByteString"], unfollowed := true, recurses := true, plainKeys := false, apart := false }
def LinearTakesSaid : Prop := linearTakesRow.holds Try.pinned (OpenSpec.ofChange linearTakesSpec)

/-- ITS FALSE NEIGHBOUR: 'it returns false'. Refute it at one input. -/
def linearTakesWrong : ChangeSpec := { name := "linearTakes", fn := fun _ => fun
  | [d1, d2, d3] => { results := [.lit (.bool false)], args := [d1, d2, d3] }
  | _ => none }
def LinearTakesWrongFalsely : Prop := linearTakesRow.holds Try.pinned (OpenSpec.ofChange linearTakesWrong)

/- THE SECOND FORM. 'bulk': how many values and letters a reading holds, each counted each time it is reached (what is shared counts as often as it is met; a slice's spare places count too). A statement '..UptoSaid' is the law's where the arguments, and the package variables that the reading takes, are together of bulk at most 1048576: NARROWER than '..Said'. Prove '..Said' where nothing that the law and all that it calls make is longer than what came in: it says more and counts as full. Else prove '..UptoSaid'. A law counts once. -/
mutual
def uptoBulk {H : Type} : DataW H → Nat
  | .lit (.string bytes) => bytes.length + 1
  | .lit _ => 1
  | .nil => 1
  | .ptr d => uptoBulk d + 1
  | .slice elems spare => uptoBulkAll elems + uptoBulkAll spare + 1
  | .agg parts => uptoBulkAll parts + 1
  | .iface _ d => uptoBulk d + 1
  | .map entries => uptoBulkEntries entries + 1
  | .held _ => 1
def uptoBulkAll {H : Type} : List (DataW H) → Nat
  | [] => 0
  | d :: r => uptoBulk d + uptoBulkAll r
def uptoBulkEntries {H : Type} : List (Lit × DataW H) → Nat
  | [] => 0
  | x :: r => uptoBulkEntry x + uptoBulkEntries r
def uptoBulkEntry {H : Type} : Lit × DataW H → Nat
  | (.string bytes, d) => bytes.length + uptoBulk d + 1
  | (_, d) => uptoBulk d + 1
 end
def uptoSmall : (H : Type) → List (DataW H) → Bool := fun _ ds => decide (uptoBulkAll ds ≤ 1048576)
def OpenSpec.upto (s : _root_.Go.ChangeSpec) : _root_.Go.OpenSpec := { _root_.Go.OpenSpec.ofChange s with cond := some uptoSmall }

/-- 'hydrantlaw10.CallsOrder', WHERE WHAT IT READS IS OF BULK AT MOST 1048576: true; the input reads as it did. -/
def callsOrderUptoRow : OpenClaim := { program := "ytbndjpkncgfpiaa", sum := "c2269e010c2065f5b537c87e0fc51c141145ad8b369a6dfc433dace60ef3a9dc", func := "hydrant/hydrantlaw10.CallsOrder", spec := "callsOrder", unfollowed := true, recurses := true, plainKeys := false, apart := false, narrowed := true }
def CallsOrderUptoSaid : Prop := callsOrderUptoRow.holds Try.pinned (OpenSpec.upto callsOrderSpec)

/-- 'hydrantlaw10.CallsGo', WHERE WHAT IT READS IS OF BULK AT MOST 1048576: true; the input reads as it did. -/
def callsGoUptoRow : OpenClaim := { program := "ytbndjpkncgfpiaa", sum := "c2269e010c2065f5b537c87e0fc51c141145ad8b369a6dfc433dace60ef3a9dc", func := "hydrant/hydrantlaw10.CallsGo", spec := "callsGo", unfollowed := true, recurses := true, plainKeys := false, apart := false, narrowed := true }
def CallsGoUptoSaid : Prop := callsGoUptoRow.holds Try.pinned (OpenSpec.upto callsGoSpec)

/-- 'hydrantlaw10.CallsFront', WHERE WHAT IT READS IS OF BULK AT MOST 1048576: true; the input reads as it did. -/
def callsFrontUptoRow : OpenClaim := { program := "ytbndjpkncgfpiaa", sum := "c2269e010c2065f5b537c87e0fc51c141145ad8b369a6dfc433dace60ef3a9dc", func := "hydrant/hydrantlaw10.CallsFront", spec := "callsFront", unfollowed := true, recurses := true, plainKeys := false, apart := false, narrowed := true }
def CallsFrontUptoSaid : Prop := callsFrontUptoRow.holds Try.pinned (OpenSpec.upto callsFrontSpec)

/-- 'hydrantlaw10.CallsCount', WHERE WHAT IT READS IS OF BULK AT MOST 1048576: true; the input reads as it did. -/
def callsCountUptoRow : OpenClaim := { program := "ytbndjpkncgfpiaa", sum := "c2269e010c2065f5b537c87e0fc51c141145ad8b369a6dfc433dace60ef3a9dc", func := "hydrant/hydrantlaw10.CallsCount", spec := "callsCount", unfollowed := true, recurses := true, plainKeys := false, apart := false, narrowed := true }
def CallsCountUptoSaid : Prop := callsCountUptoRow.holds Try.pinned (OpenSpec.upto callsCountSpec)

/-- 'hydrantlaw28.SafeTells', WHERE WHAT IT READS IS OF BULK AT MOST 1048576: true; the input reads as it did. -/
def safeTellsUptoRow : OpenClaim := { program := "ytbndjpkncgfpiaa", sum := "c2269e010c2065f5b537c87e0fc51c141145ad8b369a6dfc433dace60ef3a9dc", func := "hydrant/hydrantlaw28.SafeTells", spec := "safeTells", unfollowed := true, recurses := true, plainKeys := false, apart := false, narrowed := true }
def SafeTellsUptoSaid : Prop := safeTellsUptoRow.holds Try.pinned (OpenSpec.upto safeTellsSpec)

/-- 'hydrantlaw29.LinearTakes', WHERE WHAT IT READS IS OF BULK AT MOST 1048576: true; the input reads as it did. -/
def linearTakesUptoRow : OpenClaim := { program := "ytbndjpkncgfpiaa", sum := "c2269e010c2065f5b537c87e0fc51c141145ad8b369a6dfc433dace60ef3a9dc", func := "hydrant/hydrantlaw29.LinearTakes", spec := "linearTakes", inPlace := ["internal/bytealg.IndexByteString"], unfollowed := true, recurses := true, plainKeys := false, apart := false, narrowed := true }
def LinearTakesUptoSaid : Prop := linearTakesUptoRow.holds Try.pinned (OpenSpec.upto linearTakesSpec)

end Rows
end Go.Proofs.Ytbndjpkncgfpiaa
