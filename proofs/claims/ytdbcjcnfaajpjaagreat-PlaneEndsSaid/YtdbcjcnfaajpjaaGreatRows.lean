/-
  No cell of these rows narrows 'for every input' (looked for: loops, veiled, ifaces, maps, wideKeys, modest, calm, conditions, laid).
  DERIVED. THE GIVEN ROWS OF THIS SEAT. 3 by the template 'for every input the law returns true; each argument reads behind the call as it read before'; 0 by the template 'total and deterministic' (their statements: YtdbcjcnfaajpjaaGreatTotals.lean).
  GIVEN WITH THE SEED: the statements are not yours to turn. If you find one false, say at which input.
  Laid BY PROGRAM, IN A SANDBOX (cutbox-rows.mjs): the forced cells as the released guide's own fill.sh prints them over the translation cf33efb7c36bbd11… (all of the seat's roots in one cut). By AI agents, Wed Nov 11 2026. No macro, syntax, notation, axiom, sorry.
-/
import Derived.Test.YtdbcjcnfaajpjaaGreatChecked
import GoSem.Claim
import GoSem.ClaimJoined
import GoSem.ClaimMapViews
import Derived.JoinedTies
import Derived.KernelRfl
namespace Go.Proofs.YtdbcjcnfaajpjaaGreat
/- THE CELL 'sum', in the pinned program and in every row, IS THE sha256 OF THE DUMP (.gsa) THAT YtdbcjcnfaajpjaaGreatProg.lean LOADS. Nothing in Lean hashes anything: it is a label: what it is worth is what the hold of that sum in a sandbox is worth. -/
noncomputable def Tryz.pinned : Pinned := { name := "ytdbcjcnfaajpjaagreat", sum := "cf33efb7c36bbd11a5f445f772e4a7ed09361c726ab9d7beef2dbe158a9e81ea", checked := Tryz.checked }
namespace Rows
def none {H : Type} : Left H := { results := [], args := [] }

/-- 'hydrantlaw26.PlaneBegins': WHATEVER THE INPUT: true; the input reads as it did. -/
def planeBeginsSpec : ChangeSpec := { name := "planeBegins", fn := fun _ => fun
  | [d1, d2, d3] => { results := [.lit (.bool true)], args := [d1, d2, d3] }
  | _ => none }
def planeBeginsRow : OpenClaim := { program := "ytdbcjcnfaajpjaagreat", sum := "cf33efb7c36bbd11a5f445f772e4a7ed09361c726ab9d7beef2dbe158a9e81ea", func := "hydrant/hydrantlaw26.PlaneBegins", spec := "planeBegins", inPlace := ["internal/bytealg.IndexByteString"], unfollowed := true, recurses := true, apart := false }
def PlaneBeginsSaid : Prop := planeBeginsRow.holds Tryz.pinned (OpenSpec.ofChange planeBeginsSpec)

/-- ITS FALSE NEIGHBOUR: 'it returns false'. Refute it at one input. -/
def planeBeginsWrong : ChangeSpec := { name := "planeBegins", fn := fun _ => fun
  | [d1, d2, d3] => { results := [.lit (.bool false)], args := [d1, d2, d3] }
  | _ => none }
def PlaneBeginsWrongFalsely : Prop := planeBeginsRow.holds Tryz.pinned (OpenSpec.ofChange planeBeginsWrong)

/-- 'hydrantlaw26.PlaneEnds': WHATEVER THE INPUT: true; the input reads as it did. -/
def planeEndsSpec : ChangeSpec := { name := "planeEnds", fn := fun _ => fun
  | [d1, d2, d3] => { results := [.lit (.bool true)], args := [d1, d2, d3] }
  | _ => none }
def planeEndsRow : OpenClaim := { program := "ytdbcjcnfaajpjaagreat", sum := "cf33efb7c36bbd11a5f445f772e4a7ed09361c726ab9d7beef2dbe158a9e81ea", func := "hydrant/hydrantlaw26.PlaneEnds", spec := "planeEnds", inPlace := ["internal/bytealg.IndexByteString"], unfollowed := true, recurses := true, apart := false }
def PlaneEndsSaid : Prop := planeEndsRow.holds Tryz.pinned (OpenSpec.ofChange planeEndsSpec)

/-- ITS FALSE NEIGHBOUR: 'it returns false'. Refute it at one input. -/
def planeEndsWrong : ChangeSpec := { name := "planeEnds", fn := fun _ => fun
  | [d1, d2, d3] => { results := [.lit (.bool false)], args := [d1, d2, d3] }
  | _ => none }
def PlaneEndsWrongFalsely : Prop := planeEndsRow.holds Tryz.pinned (OpenSpec.ofChange planeEndsWrong)

/-- 'hydrantlaw26.PlaneAll': WHATEVER THE INPUT: true; the input reads as it did. -/
def planeAllSpec : ChangeSpec := { name := "planeAll", fn := fun _ => fun
  | [d1, d2, d3, d4] => { results := [.lit (.bool true)], args := [d1, d2, d3, d4] }
  | _ => none }
def planeAllRow : OpenClaim := { program := "ytdbcjcnfaajpjaagreat", sum := "cf33efb7c36bbd11a5f445f772e4a7ed09361c726ab9d7beef2dbe158a9e81ea", func := "hydrant/hydrantlaw26.PlaneAll", spec := "planeAll", inPlace := ["internal/bytealg.IndexByteString"], unfollowed := true, recurses := true, apart := false }
def PlaneAllSaid : Prop := planeAllRow.holds Tryz.pinned (OpenSpec.ofChange planeAllSpec)

/-- ITS FALSE NEIGHBOUR: 'it returns false'. Refute it at one input. -/
def planeAllWrong : ChangeSpec := { name := "planeAll", fn := fun _ => fun
  | [d1, d2, d3, d4] => { results := [.lit (.bool false)], args := [d1, d2, d3, d4] }
  | _ => none }
def PlaneAllWrongFalsely : Prop := planeAllRow.holds Tryz.pinned (OpenSpec.ofChange planeAllWrong)

/- THE SECOND FORM. 'bulk': how many values and letters a reading holds, each counted each time it is reached (what is shared counts as often as it is met; a slice's spare places count too). A statement '..UptoSaid' is the law's where the arguments, and the package variables that the reading takes, are together of bulk at most 1048576: NARROWER than '..Said'. Prove '..Said' where nothing that the law and all that it calls make is longer than what came in: it says more and counts as full. Else prove '..UptoSaid'. A law counts once. -/
mutual
def uptoBulk {H : Type} : DataW H → Nat
  | .lit (.string bytes) => bytes.length + 1
  | .lit _ => 1
  | .nil => 1
  | .ptr d => uptoBulk d + 1
  | .slice elems spare => uptoBulkAll elems + uptoBulkAll spare + 1
  | .agg parts => uptoBulkAll parts + 1
  | .iface _ d => uptoBulk d + 1
  | .map entries => uptoBulkEntries entries + 1
  | .held _ => 1
def uptoBulkAll {H : Type} : List (DataW H) → Nat
  | [] => 0
  | d :: r => uptoBulk d + uptoBulkAll r
def uptoBulkEntries {H : Type} : List (Lit × DataW H) → Nat
  | [] => 0
  | x :: r => uptoBulkEntry x + uptoBulkEntries r
def uptoBulkEntry {H : Type} : Lit × DataW H → Nat
  | (.string bytes, d) => bytes.length + uptoBulk d + 1
  | (_, d) => uptoBulk d + 1
 end
def uptoSmall : (H : Type) → List (DataW H) → Bool := fun _ ds => decide (uptoBulkAll ds ≤ 1048576)
def OpenSpec.upto (s : _root_.Go.ChangeSpec) : _root_.Go.OpenSpec := { _root_.Go.OpenSpec.ofChange s with cond := some uptoSmall }

/-- 'hydrantlaw26.PlaneBegins', WHERE WHAT IT READS IS OF BULK AT MOST 1048576: true; the input reads as it did. -/
def planeBeginsUptoRow : OpenClaim := { program := "ytdbcjcnfaajpjaagreat", sum := "cf33efb7c36bbd11a5f445f772e4a7ed09361c726ab9d7beef2dbe158a9e81ea", func := "hydrant/hydrantlaw26.PlaneBegins", spec := "planeBegins", inPlace := ["internal/bytealg.IndexByteString"], unfollowed := true, recurses := true, apart := false, narrowed := true }
def PlaneBeginsUptoSaid : Prop := planeBeginsUptoRow.holds Tryz.pinned (OpenSpec.upto planeBeginsSpec)

/-- 'hydrantlaw26.PlaneEnds', WHERE WHAT IT READS IS OF BULK AT MOST 1048576: true; the input reads as it did. -/
def planeEndsUptoRow : OpenClaim := { program := "ytdbcjcnfaajpjaagreat", sum := "cf33efb7c36bbd11a5f445f772e4a7ed09361c726ab9d7beef2dbe158a9e81ea", func := "hydrant/hydrantlaw26.PlaneEnds", spec := "planeEnds", inPlace := ["internal/bytealg.IndexByteString"], unfollowed := true, recurses := true, apart := false, narrowed := true }
def PlaneEndsUptoSaid : Prop := planeEndsUptoRow.holds Tryz.pinned (OpenSpec.upto planeEndsSpec)

/-- 'hydrantlaw26.PlaneAll', WHERE WHAT IT READS IS OF BULK AT MOST 1048576: true; the input reads as it did. -/
def planeAllUptoRow : OpenClaim := { program := "ytdbcjcnfaajpjaagreat", sum := "cf33efb7c36bbd11a5f445f772e4a7ed09361c726ab9d7beef2dbe158a9e81ea", func := "hydrant/hydrantlaw26.PlaneAll", spec := "planeAll", inPlace := ["internal/bytealg.IndexByteString"], unfollowed := true, recurses := true, apart := false, narrowed := true }
def PlaneAllUptoSaid : Prop := planeAllUptoRow.holds Tryz.pinned (OpenSpec.upto planeAllSpec)

end Rows
end Go.Proofs.YtdbcjcnfaajpjaaGreat
