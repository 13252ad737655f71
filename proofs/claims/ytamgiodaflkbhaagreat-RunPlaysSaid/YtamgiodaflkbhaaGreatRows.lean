/-
  No cell of these rows narrows 'for every input' (looked for: loops, veiled, ifaces, maps, wideKeys, modest, calm, conditions, laid).
  DERIVED. THE GIVEN ROWS OF THIS SEAT. 2 by the template 'for every input the law returns true; each argument reads behind the call as it read before'; 0 by the template 'total and deterministic' (their statements: YtamgiodaflkbhaaGreatTotals.lean).
  GIVEN WITH THE SEED: the statements are not yours to turn. If you find one false, say at which input.
  Laid BY PROGRAM, IN A SANDBOX (cutbox-rows.mjs): the forced cells as the released guide's own fill.sh prints them over the translation 5b3c4c36042ac74d… (all of the seat's roots in one cut). By AI agents, Wed Nov 11 2026. No macro, syntax, notation, axiom, sorry.
-/
import Derived.Test.YtamgiodaflkbhaaGreatChecked
import GoSem.Claim
import GoSem.ClaimJoined
import GoSem.ClaimMapViews
import Derived.JoinedTies
import Derived.KernelRfl
namespace Go.Proofs.YtamgiodaflkbhaaGreat
/- THE CELL 'sum', in the pinned program and in every row, IS THE sha256 OF THE DUMP (.gsa) THAT YtamgiodaflkbhaaGreatProg.lean LOADS. Nothing in Lean hashes anything: it is a label: what it is worth is what the hold of that sum in a sandbox is worth. -/
noncomputable def Tryz.pinned : Pinned := { name := "ytamgiodaflkbhaagreat", sum := "5b3c4c36042ac74db8fdde01866cc08e2f42e3fe68514d852ffe9348fd181d1e", checked := Tryz.checked }
namespace Rows
def none {H : Type} : Left H := { results := [], args := [] }

/-- 'hydrantlaw27.RunPlays': WHATEVER THE INPUT: true; the input reads as it did. -/
def runPlaysSpec : ChangeSpec := { name := "runPlays", fn := fun _ => fun
  | [d] => { results := [.lit (.bool true)], args := [d] }
  | _ => none }
def runPlaysRow : OpenClaim := { program := "ytamgiodaflkbhaagreat", sum := "5b3c4c36042ac74db8fdde01866cc08e2f42e3fe68514d852ffe9348fd181d1e", func := "hydrant/hydrantlaw27.RunPlays", spec := "runPlays", inPlace := ["internal/bytealg.IndexByteString"], unfollowed := true, recurses := true, plainKeys := false, apart := false }
def RunPlaysSaid : Prop := runPlaysRow.holds Tryz.pinned (OpenSpec.ofChange runPlaysSpec)

/-- ITS FALSE NEIGHBOUR: 'it returns false'. Refute it at one input. -/
def runPlaysWrong : ChangeSpec := { name := "runPlays", fn := fun _ => fun
  | [d] => { results := [.lit (.bool false)], args := [d] }
  | _ => none }
def RunPlaysWrongFalsely : Prop := runPlaysRow.holds Tryz.pinned (OpenSpec.ofChange runPlaysWrong)

/-- 'hydrantlaw27.RunAlone': WHATEVER THE INPUT: true; the input reads as it did. -/
def runAloneSpec : ChangeSpec := { name := "runAlone", fn := fun _ => fun
  | [d1, d2, d3, d4] => { results := [.lit (.bool true)], args := [d1, d2, d3, d4] }
  | _ => none }
def runAloneRow : OpenClaim := { program := "ytamgiodaflkbhaagreat", sum := "5b3c4c36042ac74db8fdde01866cc08e2f42e3fe68514d852ffe9348fd181d1e", func := "hydrant/hydrantlaw27.RunAlone", spec := "runAlone", inPlace := ["internal/bytealg.IndexByteString"], unfollowed := true, recurses := true, plainKeys := false, apart := false }
def RunAloneSaid : Prop := runAloneRow.holds Tryz.pinned (OpenSpec.ofChange runAloneSpec)

/-- ITS FALSE NEIGHBOUR: 'it returns false'. Refute it at one input. -/
def runAloneWrong : ChangeSpec := { name := "runAlone", fn := fun _ => fun
  | [d1, d2, d3, d4] => { results := [.lit (.bool false)], args := [d1, d2, d3, d4] }
  | _ => none }
def RunAloneWrongFalsely : Prop := runAloneRow.holds Tryz.pinned (OpenSpec.ofChange runAloneWrong)

/- THE SECOND FORM. 'bulk': how many values and letters a reading holds, each counted each time it is reached (what is shared counts as often as it is met; a slice's spare places count too). A statement '..UptoSaid' is the law's where the arguments, and the package variables that the reading takes, are together of bulk at most 1048576: NARROWER than '..Said'. Prove '..Said' where nothing that the law and all that it calls make is longer than what came in: it says more and counts as full. Else prove '..UptoSaid'. A law counts once. -/
mutual
def uptoBulk {H : Type} : DataW H → Nat
  | .lit (.string bytes) => bytes.length + 1
  | .lit _ => 1
  | .nil => 1
  | .ptr d => uptoBulk d + 1
  | .slice elems spare => uptoBulkAll elems + uptoBulkAll spare + 1
  | .agg parts => uptoBulkAll parts + 1
  | .iface _ d => uptoBulk d + 1
  | .map entries => uptoBulkEntries entries + 1
  | .held _ => 1
def uptoBulkAll {H : Type} : List (DataW H) → Nat
  | [] => 0
  | d :: r => uptoBulk d + uptoBulkAll r
def uptoBulkEntries {H : Type} : List (Lit × DataW H) → Nat
  | [] => 0
  | x :: r => uptoBulkEntry x + uptoBulkEntries r
def uptoBulkEntry {H : Type} : Lit × DataW H → Nat
  | (.string bytes, d) => bytes.length + uptoBulk d + 1
  | (_, d) => uptoBulk d + 1
 end
def uptoSmall : (H : Type) → List (DataW H) → Bool := fun _ ds => decide (uptoBulkAll ds ≤ 1048576)
def OpenSpec.upto (s : _root_.Go.ChangeSpec) : _root_.Go.OpenSpec := { _root_.Go.OpenSpec.ofChange s with cond := some uptoSmall }

/-- 'hydrantlaw27.RunPlays', WHERE WHAT IT READS IS OF BULK AT MOST 1048576: true; the input reads as it did. -/
def runPlaysUptoRow : OpenClaim := { program := "ytamgiodaflkbhaagreat", sum := "5b3c4c36042ac74db8fdde01866cc08e2f42e3fe68514d852ffe9348fd181d1e", func := "hydrant/hydrantlaw27.RunPlays", spec := "runPlays", inPlace := ["internal/bytealg.IndexByteString"], unfollowed := true, recurses := true, plainKeys := false, apart := false, narrowed := true }
def RunPlaysUptoSaid : Prop := runPlaysUptoRow.holds Tryz.pinned (OpenSpec.upto runPlaysSpec)

/-- 'hydrantlaw27.RunAlone', WHERE WHAT IT READS IS OF BULK AT MOST 1048576: true; the input reads as it did. -/
def runAloneUptoRow : OpenClaim := { program := "ytamgiodaflkbhaagreat", sum := "5b3c4c36042ac74db8fdde01866cc08e2f42e3fe68514d852ffe9348fd181d1e", func := "hydrant/hydrantlaw27.RunAlone", spec := "runAlone", inPlace := ["internal/bytealg.IndexByteString"], unfollowed := true, recurses := true, plainKeys := false, apart := false, narrowed := true }
def RunAloneUptoSaid : Prop := runAloneUptoRow.holds Tryz.pinned (OpenSpec.upto runAloneSpec)

end Rows
end Go.Proofs.YtamgiodaflkbhaaGreat
