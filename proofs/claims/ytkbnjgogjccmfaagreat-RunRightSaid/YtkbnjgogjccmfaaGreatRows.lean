/-
  No cell of these rows narrows 'for every input' (looked for: loops, veiled, ifaces, maps, wideKeys, modest, calm, conditions, laid).
  DERIVED. THE GIVEN ROWS OF THIS SEAT. 4 by the template 'for every input the law returns true; each argument reads behind the call as it read before'; 0 by the template 'total and deterministic' (their statements: YtkbnjgogjccmfaaGreatTotals.lean).
  GIVEN WITH THE SEED: the statements are not yours to turn. If you find one false, say at which input.
  Laid BY PROGRAM, IN A SANDBOX (cutbox-rows.mjs): the forced cells as the released guide's own fill.sh prints them over the translation 361c7b44aec8ccbc… (all of the seat's roots in one cut). By AI agents, Wed Nov 11 2026. No macro, syntax, notation, axiom, sorry.
-/
import Derived.Test.YtkbnjgogjccmfaaGreatChecked
import GoSem.Claim
import GoSem.ClaimJoined
import GoSem.ClaimMapViews
import Derived.JoinedTies
import Derived.KernelRfl
namespace Go.Proofs.YtkbnjgogjccmfaaGreat
/- THE CELL 'sum', in the pinned program and in every row, IS THE sha256 OF THE DUMP (.gsa) THAT YtkbnjgogjccmfaaGreatProg.lean LOADS. Nothing in Lean hashes anything: it is a label: what it is worth is what the hold of that sum in a sandbox is worth. -/
noncomputable def Tryz.pinned : Pinned := { name := "ytkbnjgogjccmfaagreat", sum := "361c7b44aec8ccbc372efddec39c536b426a758010a5d9f437535310fc618a9f", checked := Tryz.checked }
namespace Rows
def none {H : Type} : Left H := { results := [], args := [] }

/-- 'hydrantlaw27.RunRight': WHATEVER THE INPUT: true; the input reads as it did. -/
def runRightSpec : ChangeSpec := { name := "runRight", fn := fun _ => fun
  | [d] => { results := [.lit (.bool true)], args := [d] }
  | _ => none }
def runRightRow : OpenClaim := { program := "ytkbnjgogjccmfaagreat", sum := "361c7b44aec8ccbc372efddec39c536b426a758010a5d9f437535310fc618a9f", func := "hydrant/hydrantlaw27.RunRight", spec := "runRight", inPlace := ["internal/bytealg.IndexByteString"], unfollowed := true, recurses := true, plainKeys := false, apart := false }
def RunRightSaid : Prop := runRightRow.holds Tryz.pinned (OpenSpec.ofChange runRightSpec)

/-- ITS FALSE NEIGHBOUR: 'it returns false'. Refute it at one input. -/
def runRightWrong : ChangeSpec := { name := "runRight", fn := fun _ => fun
  | [d] => { results := [.lit (.bool false)], args := [d] }
  | _ => none }
def RunRightWrongFalsely : Prop := runRightRow.holds Tryz.pinned (OpenSpec.ofChange runRightWrong)

/-- 'hydrantlaw27.RunMore': WHATEVER THE INPUT: true; the input reads as it did. -/
def runMoreSpec : ChangeSpec := { name := "runMore", fn := fun _ => fun
  | [d1, d2] => { results := [.lit (.bool true)], args := [d1, d2] }
  | _ => none }
def runMoreRow : OpenClaim := { program := "ytkbnjgogjccmfaagreat", sum := "361c7b44aec8ccbc372efddec39c536b426a758010a5d9f437535310fc618a9f", func := "hydrant/hydrantlaw27.RunMore", spec := "runMore", inPlace := ["internal/bytealg.IndexByteString"], unfollowed := true, recurses := true, plainKeys := false, apart := false }
def RunMoreSaid : Prop := runMoreRow.holds Tryz.pinned (OpenSpec.ofChange runMoreSpec)

/-- ITS FALSE NEIGHBOUR: 'it returns false'. Refute it at one input. -/
def runMoreWrong : ChangeSpec := { name := "runMore", fn := fun _ => fun
  | [d1, d2] => { results := [.lit (.bool false)], args := [d1, d2] }
  | _ => none }
def RunMoreWrongFalsely : Prop := runMoreRow.holds Tryz.pinned (OpenSpec.ofChange runMoreWrong)

/-- 'hydrantlaw27.RunStats': WHATEVER THE INPUT: true; the input reads as it did. -/
def runStatsSpec : ChangeSpec := { name := "runStats", fn := fun _ => fun
  | [d] => { results := [.lit (.bool true)], args := [d] }
  | _ => none }
def runStatsRow : OpenClaim := { program := "ytkbnjgogjccmfaagreat", sum := "361c7b44aec8ccbc372efddec39c536b426a758010a5d9f437535310fc618a9f", func := "hydrant/hydrantlaw27.RunStats", spec := "runStats", inPlace := ["internal/bytealg.IndexByteString"], unfollowed := true, recurses := true, plainKeys := false, apart := false }
def RunStatsSaid : Prop := runStatsRow.holds Tryz.pinned (OpenSpec.ofChange runStatsSpec)

/-- ITS FALSE NEIGHBOUR: 'it returns false'. Refute it at one input. -/
def runStatsWrong : ChangeSpec := { name := "runStats", fn := fun _ => fun
  | [d] => { results := [.lit (.bool false)], args := [d] }
  | _ => none }
def RunStatsWrongFalsely : Prop := runStatsRow.holds Tryz.pinned (OpenSpec.ofChange runStatsWrong)

/-- 'hydrantlaw27.RunCounts': WHATEVER THE INPUT: true; the input reads as it did. -/
def runCountsSpec : ChangeSpec := { name := "runCounts", fn := fun _ => fun
  | [d] => { results := [.lit (.bool true)], args := [d] }
  | _ => none }
def runCountsRow : OpenClaim := { program := "ytkbnjgogjccmfaagreat", sum := "361c7b44aec8ccbc372efddec39c536b426a758010a5d9f437535310fc618a9f", func := "hydrant/hydrantlaw27.RunCounts", spec := "runCounts", inPlace := ["internal/bytealg.IndexByteString"], unfollowed := true, recurses := true, plainKeys := false, apart := false }
def RunCountsSaid : Prop := runCountsRow.holds Tryz.pinned (OpenSpec.ofChange runCountsSpec)

/-- ITS FALSE NEIGHBOUR: 'it returns false'. Refute it at one input. -/
def runCountsWrong : ChangeSpec := { name := "runCounts", fn := fun _ => fun
  | [d] => { results := [.lit (.bool false)], args := [d] }
  | _ => none }
def RunCountsWrongFalsely : Prop := runCountsRow.holds Tryz.pinned (OpenSpec.ofChange runCountsWrong)

/- THE SECOND FORM. 'bulk': how many values and letters a reading holds, each counted each time it is reached (what is shared counts as often as it is met; a slice's spare places count too). A statement '..UptoSaid' is the law's where the arguments, and the package variables that the reading takes, are together of bulk at most 1048576: NARROWER than '..Said'. Prove '..Said' where nothing that the law and all that it calls make is longer than what came in: it says more and counts as full. Else prove '..UptoSaid'. A law counts once. -/
mutual
def uptoBulk {H : Type} : DataW H → Nat
  | .lit (.string bytes) => bytes.length + 1
  | .lit _ => 1
  | .nil => 1
  | .ptr d => uptoBulk d + 1
  | .slice elems spare => uptoBulkAll elems + uptoBulkAll spare + 1
  | .agg parts => uptoBulkAll parts + 1
  | .iface _ d => uptoBulk d + 1
  | .map entries => uptoBulkEntries entries + 1
  | .held _ => 1
def uptoBulkAll {H : Type} : List (DataW H) → Nat
  | [] => 0
  | d :: r => uptoBulk d + uptoBulkAll r
def uptoBulkEntries {H : Type} : List (Lit × DataW H) → Nat
  | [] => 0
  | x :: r => uptoBulkEntry x + uptoBulkEntries r
def uptoBulkEntry {H : Type} : Lit × DataW H → Nat
  | (.string bytes, d) => bytes.length + uptoBulk d + 1
  | (_, d) => uptoBulk d + 1
 end
def uptoSmall : (H : Type) → List (DataW H) → Bool := fun _ ds => decide (uptoBulkAll ds ≤ 1048576)
def OpenSpec.upto (s : _root_.Go.ChangeSpec) : _root_.Go.OpenSpec := { _root_.Go.OpenSpec.ofChange s with cond := some uptoSmall }

/-- 'hydrantlaw27.RunRight', WHERE WHAT IT READS IS OF BULK AT MOST 1048576: true; the input reads as it did. -/
def runRightUptoRow : OpenClaim := { program := "ytkbnjgogjccmfaagreat", sum := "361c7b44aec8ccbc372efddec39c536b426a758010a5d9f437535310fc618a9f", func := "hydrant/hydrantlaw27.RunRight", spec := "runRight", inPlace := ["internal/bytealg.IndexByteString"], unfollowed := true, recurses := true, plainKeys := false, apart := false, narrowed := true }
def RunRightUptoSaid : Prop := runRightUptoRow.holds Tryz.pinned (OpenSpec.upto runRightSpec)

/-- 'hydrantlaw27.RunMore', WHERE WHAT IT READS IS OF BULK AT MOST 1048576: true; the input reads as it did. -/
def runMoreUptoRow : OpenClaim := { program := "ytkbnjgogjccmfaagreat", sum := "361c7b44aec8ccbc372efddec39c536b426a758010a5d9f437535310fc618a9f", func := "hydrant/hydrantlaw27.RunMore", spec := "runMore", inPlace := ["internal/bytealg.IndexByteString"], unfollowed := true, recurses := true, plainKeys := false, apart := false, narrowed := true }
def RunMoreUptoSaid : Prop := runMoreUptoRow.holds Tryz.pinned (OpenSpec.upto runMoreSpec)

/-- 'hydrantlaw27.RunStats', WHERE WHAT IT READS IS OF BULK AT MOST 1048576: true; the input reads as it did. -/
def runStatsUptoRow : OpenClaim := { program := "ytkbnjgogjccmfaagreat", sum := "361c7b44aec8ccbc372efddec39c536b426a758010a5d9f437535310fc618a9f", func := "hydrant/hydrantlaw27.RunStats", spec := "runStats", inPlace := ["internal/bytealg.IndexByteString"], unfollowed := true, recurses := true, plainKeys := false, apart := false, narrowed := true }
def RunStatsUptoSaid : Prop := runStatsUptoRow.holds Tryz.pinned (OpenSpec.upto runStatsSpec)

/-- 'hydrantlaw27.RunCounts', WHERE WHAT IT READS IS OF BULK AT MOST 1048576: true; the input reads as it did. -/
def runCountsUptoRow : OpenClaim := { program := "ytkbnjgogjccmfaagreat", sum := "361c7b44aec8ccbc372efddec39c536b426a758010a5d9f437535310fc618a9f", func := "hydrant/hydrantlaw27.RunCounts", spec := "runCounts", inPlace := ["internal/bytealg.IndexByteString"], unfollowed := true, recurses := true, plainKeys := false, apart := false, narrowed := true }
def RunCountsUptoSaid : Prop := runCountsUptoRow.holds Tryz.pinned (OpenSpec.upto runCountsSpec)

end Rows
end Go.Proofs.YtkbnjgogjccmfaaGreat
