/-
  No cell of these rows narrows 'for every input' (looked for: loops, veiled, ifaces, maps, wideKeys, modest, calm, conditions, laid).
  DERIVED. THE GIVEN ROWS OF THIS SEAT. 9 by the template 'for every input the law returns true; each argument reads behind the call as it read before'; 0 by the template 'total and deterministic' (their statements: YtoeaoedlpmohoaaGreatTotals.lean).
  GIVEN WITH THE SEED: the statements are not yours to turn. If you find one false, say at which input.
  Laid BY PROGRAM, IN A SANDBOX (cutbox-rows.mjs): the forced cells as the released guide's own fill.sh prints them over the translation 7d4170262a6c5779… (all of the seat's roots in one cut). By AI agents, Wed Nov 11 2026. No macro, syntax, notation, axiom, sorry.
-/
import Derived.Test.YtoeaoedlpmohoaaGreatChecked
import GoSem.Claim
import GoSem.ClaimJoined
import GoSem.ClaimMapViews
import Derived.JoinedTies
import Derived.KernelRfl
namespace Go.Proofs.YtoeaoedlpmohoaaGreat
/- THE CELL 'sum', in the pinned program and in every row, IS THE sha256 OF THE DUMP (.gsa) THAT YtoeaoedlpmohoaaGreatProg.lean LOADS. Nothing in Lean hashes anything: it is a label: what it is worth is what the hold of that sum in a sandbox is worth. -/
noncomputable def Tryz.pinned : Pinned := { name := "ytoeaoedlpmohoaagreat", sum := "7d4170262a6c5779b3fbb59ff8c88156d5ebfa4a29b824441141fa6a5a1ea0e8", checked := Tryz.checked }
namespace Rows
def none {H : Type} : Left H := { results := [], args := [] }

/-- 'hydrantlaw29.LinearPlays': WHATEVER THE INPUT: true; the input reads as it did. -/
def linearPlaysSpec : ChangeSpec := { name := "linearPlays", fn := fun _ => fun
  | [d] => { results := [.lit (.bool true)], args := [d] }
  | _ => none }
def linearPlaysRow : OpenClaim := { program := "ytoeaoedlpmohoaagreat", sum := "7d4170262a6c5779b3fbb59ff8c88156d5ebfa4a29b824441141fa6a5a1ea0e8", func := "hydrant/hydrantlaw29.LinearPlays", spec := "linearPlays", inPlace := ["internal/bytealg.IndexByteString"], unfollowed := true, recurses := true, plainKeys := false, apart := false }
def LinearPlaysSaid : Prop := linearPlaysRow.holds Tryz.pinned (OpenSpec.ofChange linearPlaysSpec)

/-- ITS FALSE NEIGHBOUR: 'it returns false'. Refute it at one input. -/
def linearPlaysWrong : ChangeSpec := { name := "linearPlays", fn := fun _ => fun
  | [d] => { results := [.lit (.bool false)], args := [d] }
  | _ => none }
def LinearPlaysWrongFalsely : Prop := linearPlaysRow.holds Tryz.pinned (OpenSpec.ofChange linearPlaysWrong)

/-- 'hydrantlaw29.LinearVersion': WHATEVER THE INPUT: true; the input reads as it did. -/
def linearVersionSpec : ChangeSpec := { name := "linearVersion", fn := fun _ => fun
  | [d] => { results := [.lit (.bool true)], args := [d] }
  | _ => none }
def linearVersionRow : OpenClaim := { program := "ytoeaoedlpmohoaagreat", sum := "7d4170262a6c5779b3fbb59ff8c88156d5ebfa4a29b824441141fa6a5a1ea0e8", func := "hydrant/hydrantlaw29.LinearVersion", spec := "linearVersion", inPlace := ["internal/bytealg.IndexByteString"], unfollowed := true, recurses := true, plainKeys := false, apart := false }
def LinearVersionSaid : Prop := linearVersionRow.holds Tryz.pinned (OpenSpec.ofChange linearVersionSpec)

/-- ITS FALSE NEIGHBOUR: 'it returns false'. Refute it at one input. -/
def linearVersionWrong : ChangeSpec := { name := "linearVersion", fn := fun _ => fun
  | [d] => { results := [.lit (.bool false)], args := [d] }
  | _ => none }
def LinearVersionWrongFalsely : Prop := linearVersionRow.holds Tryz.pinned (OpenSpec.ofChange linearVersionWrong)

/-- 'hydrantlaw29.LinearDrained': WHATEVER THE INPUT: true; the input reads as it did. -/
def linearDrainedSpec : ChangeSpec := { name := "linearDrained", fn := fun _ => fun
  | [d] => { results := [.lit (.bool true)], args := [d] }
  | _ => none }
def linearDrainedRow : OpenClaim := { program := "ytoeaoedlpmohoaagreat", sum := "7d4170262a6c5779b3fbb59ff8c88156d5ebfa4a29b824441141fa6a5a1ea0e8", func := "hydrant/hydrantlaw29.LinearDrained", spec := "linearDrained", inPlace := ["internal/bytealg.IndexByteString"], unfollowed := true, recurses := true, plainKeys := false, apart := false }
def LinearDrainedSaid : Prop := linearDrainedRow.holds Tryz.pinned (OpenSpec.ofChange linearDrainedSpec)

/-- ITS FALSE NEIGHBOUR: 'it returns false'. Refute it at one input. -/
def linearDrainedWrong : ChangeSpec := { name := "linearDrained", fn := fun _ => fun
  | [d] => { results := [.lit (.bool false)], args := [d] }
  | _ => none }
def LinearDrainedWrongFalsely : Prop := linearDrainedRow.holds Tryz.pinned (OpenSpec.ofChange linearDrainedWrong)

/-- 'hydrantlaw28.SafePlays': WHATEVER THE INPUT: true; the input reads as it did. -/
def safePlaysSpec : ChangeSpec := { name := "safePlays", fn := fun _ => fun
  | [d] => { results := [.lit (.bool true)], args := [d] }
  | _ => none }
def safePlaysRow : OpenClaim := { program := "ytoeaoedlpmohoaagreat", sum := "7d4170262a6c5779b3fbb59ff8c88156d5ebfa4a29b824441141fa6a5a1ea0e8", func := "hydrant/hydrantlaw28.SafePlays", spec := "safePlays", inPlace := ["internal/bytealg.IndexByteString"], unfollowed := true, recurses := true, plainKeys := false, apart := false }
def SafePlaysSaid : Prop := safePlaysRow.holds Tryz.pinned (OpenSpec.ofChange safePlaysSpec)

/-- ITS FALSE NEIGHBOUR: 'it returns false'. Refute it at one input. -/
def safePlaysWrong : ChangeSpec := { name := "safePlays", fn := fun _ => fun
  | [d] => { results := [.lit (.bool false)], args := [d] }
  | _ => none }
def SafePlaysWrongFalsely : Prop := safePlaysRow.holds Tryz.pinned (OpenSpec.ofChange safePlaysWrong)

/-- 'hydrantlaw28.SafeGauges': WHATEVER THE INPUT: true; the input reads as it did. -/
def safeGaugesSpec : ChangeSpec := { name := "safeGauges", fn := fun _ => fun
  | [d] => { results := [.lit (.bool true)], args := [d] }
  | _ => none }
def safeGaugesRow : OpenClaim := { program := "ytoeaoedlpmohoaagreat", sum := "7d4170262a6c5779b3fbb59ff8c88156d5ebfa4a29b824441141fa6a5a1ea0e8", func := "hydrant/hydrantlaw28.SafeGauges", spec := "safeGauges", inPlace := ["internal/bytealg.IndexByteString"], unfollowed := true, recurses := true, plainKeys := false, apart := false }
def SafeGaugesSaid : Prop := safeGaugesRow.holds Tryz.pinned (OpenSpec.ofChange safeGaugesSpec)

/-- ITS FALSE NEIGHBOUR: 'it returns false'. Refute it at one input. -/
def safeGaugesWrong : ChangeSpec := { name := "safeGauges", fn := fun _ => fun
  | [d] => { results := [.lit (.bool false)], args := [d] }
  | _ => none }
def SafeGaugesWrongFalsely : Prop := safeGaugesRow.holds Tryz.pinned (OpenSpec.ofChange safeGaugesWrong)

/-- 'hydrantlaw28.SafeTickets': WHATEVER THE INPUT: true; the input reads as it did. -/
def safeTicketsSpec : ChangeSpec := { name := "safeTickets", fn := fun _ => fun
  | [d] => { results := [.lit (.bool true)], args := [d] }
  | _ => none }
def safeTicketsRow : OpenClaim := { program := "ytoeaoedlpmohoaagreat", sum := "7d4170262a6c5779b3fbb59ff8c88156d5ebfa4a29b824441141fa6a5a1ea0e8", func := "hydrant/hydrantlaw28.SafeTickets", spec := "safeTickets", inPlace := ["internal/bytealg.IndexByteString"], unfollowed := true, recurses := true, plainKeys := false, apart := false }
def SafeTicketsSaid : Prop := safeTicketsRow.holds Tryz.pinned (OpenSpec.ofChange safeTicketsSpec)

/-- ITS FALSE NEIGHBOUR: 'it returns false'. Refute it at one input. -/
def safeTicketsWrong : ChangeSpec := { name := "safeTickets", fn := fun _ => fun
  | [d] => { results := [.lit (.bool false)], args := [d] }
  | _ => none }
def SafeTicketsWrongFalsely : Prop := safeTicketsRow.holds Tryz.pinned (OpenSpec.ofChange safeTicketsWrong)

/-- 'hydrantlaw28.SafeLeast': WHATEVER THE INPUT: true; the input reads as it did. -/
def safeLeastSpec : ChangeSpec := { name := "safeLeast", fn := fun _ => fun
  | [d] => { results := [.lit (.bool true)], args := [d] }
  | _ => none }
def safeLeastRow : OpenClaim := { program := "ytoeaoedlpmohoaagreat", sum := "7d4170262a6c5779b3fbb59ff8c88156d5ebfa4a29b824441141fa6a5a1ea0e8", func := "hydrant/hydrantlaw28.SafeLeast", spec := "safeLeast", inPlace := ["internal/bytealg.IndexByteString"], unfollowed := true, recurses := true, plainKeys := false, apart := false }
def SafeLeastSaid : Prop := safeLeastRow.holds Tryz.pinned (OpenSpec.ofChange safeLeastSpec)

/-- ITS FALSE NEIGHBOUR: 'it returns false'. Refute it at one input. -/
def safeLeastWrong : ChangeSpec := { name := "safeLeast", fn := fun _ => fun
  | [d] => { results := [.lit (.bool false)], args := [d] }
  | _ => none }
def SafeLeastWrongFalsely : Prop := safeLeastRow.holds Tryz.pinned (OpenSpec.ofChange safeLeastWrong)

/-- 'hydrantlaw28.SafeSlots': WHATEVER THE INPUT: true; the input reads as it did. -/
def safeSlotsSpec : ChangeSpec := { name := "safeSlots", fn := fun _ => fun
  | [d] => { results := [.lit (.bool true)], args := [d] }
  | _ => none }
def safeSlotsRow : OpenClaim := { program := "ytoeaoedlpmohoaagreat", sum := "7d4170262a6c5779b3fbb59ff8c88156d5ebfa4a29b824441141fa6a5a1ea0e8", func := "hydrant/hydrantlaw28.SafeSlots", spec := "safeSlots", inPlace := ["internal/bytealg.IndexByteString"], unfollowed := true, recurses := true, plainKeys := false, apart := false }
def SafeSlotsSaid : Prop := safeSlotsRow.holds Tryz.pinned (OpenSpec.ofChange safeSlotsSpec)

/-- ITS FALSE NEIGHBOUR: 'it returns false'. Refute it at one input. -/
def safeSlotsWrong : ChangeSpec := { name := "safeSlots", fn := fun _ => fun
  | [d] => { results := [.lit (.bool false)], args := [d] }
  | _ => none }
def SafeSlotsWrongFalsely : Prop := safeSlotsRow.holds Tryz.pinned (OpenSpec.ofChange safeSlotsWrong)

/-- 'hydrantlaw28.SafeSpread': WHATEVER THE INPUT: true; the input reads as it did. -/
def safeSpreadSpec : ChangeSpec := { name := "safeSpread", fn := fun _ => fun
  | [d] => { results := [.lit (.bool true)], args := [d] }
  | _ => none }
def safeSpreadRow : OpenClaim := { program := "ytoeaoedlpmohoaagreat", sum := "7d4170262a6c5779b3fbb59ff8c88156d5ebfa4a29b824441141fa6a5a1ea0e8", func := "hydrant/hydrantlaw28.SafeSpread", spec := "safeSpread", inPlace := ["internal/bytealg.IndexByteString"], unfollowed := true, recurses := true, plainKeys := false, apart := false }
def SafeSpreadSaid : Prop := safeSpreadRow.holds Tryz.pinned (OpenSpec.ofChange safeSpreadSpec)

/-- ITS FALSE NEIGHBOUR: 'it returns false'. Refute it at one input. -/
def safeSpreadWrong : ChangeSpec := { name := "safeSpread", fn := fun _ => fun
  | [d] => { results := [.lit (.bool false)], args := [d] }
  | _ => none }
def SafeSpreadWrongFalsely : Prop := safeSpreadRow.holds Tryz.pinned (OpenSpec.ofChange safeSpreadWrong)

/- THE SECOND FORM. 'bulk': how many values and letters a reading holds, each counted each time it is reached (what is shared counts as often as it is met; a slice's spare places count too). A statement '..UptoSaid' is the law's where the arguments, and the package variables that the reading takes, are together of bulk at most 1048576: NARROWER than '..Said'. Prove '..Said' where nothing that the law and all that it calls make is longer than what came in: it says more and counts as full. Else prove '..UptoSaid'. A law counts once. -/
mutual
def uptoBulk {H : Type} : DataW H → Nat
  | .lit (.string bytes) => bytes.length + 1
  | .lit _ => 1
  | .nil => 1
  | .ptr d => uptoBulk d + 1
  | .slice elems spare => uptoBulkAll elems + uptoBulkAll spare + 1
  | .agg parts => uptoBulkAll parts + 1
  | .iface _ d => uptoBulk d + 1
  | .map entries => uptoBulkEntries entries + 1
  | .held _ => 1
def uptoBulkAll {H : Type} : List (DataW H) → Nat
  | [] => 0
  | d :: r => uptoBulk d + uptoBulkAll r
def uptoBulkEntries {H : Type} : List (Lit × DataW H) → Nat
  | [] => 0
  | x :: r => uptoBulkEntry x + uptoBulkEntries r
def uptoBulkEntry {H : Type} : Lit × DataW H → Nat
  | (.string bytes, d) => bytes.length + uptoBulk d + 1
  | (_, d) => uptoBulk d + 1
 end
def uptoSmall : (H : Type) → List (DataW H) → Bool := fun _ ds => decide (uptoBulkAll ds ≤ 1048576)
def OpenSpec.upto (s : _root_.Go.ChangeSpec) : _root_.Go.OpenSpec := { _root_.Go.OpenSpec.ofChange s with cond := some uptoSmall }

/-- 'hydrantlaw29.LinearPlays', WHERE WHAT IT READS IS OF BULK AT MOST 1048576: true; the input reads as it did. -/
def linearPlaysUptoRow : OpenClaim := { program := "ytoeaoedlpmohoaagreat", sum := "7d4170262a6c5779b3fbb59ff8c88156d5ebfa4a29b824441141fa6a5a1ea0e8", func := "hydrant/hydrantlaw29.LinearPlays", spec := "linearPlays", inPlace := ["internal/bytealg.IndexByteString"], unfollowed := true, recurses := true, plainKeys := false, apart := false, narrowed := true }
def LinearPlaysUptoSaid : Prop := linearPlaysUptoRow.holds Tryz.pinned (OpenSpec.upto linearPlaysSpec)

/-- 'hydrantlaw29.LinearVersion', WHERE WHAT IT READS IS OF BULK AT MOST 1048576: true; the input reads as it did. -/
def linearVersionUptoRow : OpenClaim := { program := "ytoeaoedlpmohoaagreat", sum := "7d4170262a6c5779b3fbb59ff8c88156d5ebfa4a29b824441141fa6a5a1ea0e8", func := "hydrant/hydrantlaw29.LinearVersion", spec := "linearVersion", inPlace := ["internal/bytealg.IndexByteString"], unfollowed := true, recurses := true, plainKeys := false, apart := false, narrowed := true }
def LinearVersionUptoSaid : Prop := linearVersionUptoRow.holds Tryz.pinned (OpenSpec.upto linearVersionSpec)

/-- 'hydrantlaw29.LinearDrained', WHERE WHAT IT READS IS OF BULK AT MOST 1048576: true; the input reads as it did. -/
def linearDrainedUptoRow : OpenClaim := { program := "ytoeaoedlpmohoaagreat", sum := "7d4170262a6c5779b3fbb59ff8c88156d5ebfa4a29b824441141fa6a5a1ea0e8", func := "hydrant/hydrantlaw29.LinearDrained", spec := "linearDrained", inPlace := ["internal/bytealg.IndexByteString"], unfollowed := true, recurses := true, plainKeys := false, apart := false, narrowed := true }
def LinearDrainedUptoSaid : Prop := linearDrainedUptoRow.holds Tryz.pinned (OpenSpec.upto linearDrainedSpec)

/-- 'hydrantlaw28.SafePlays', WHERE WHAT IT READS IS OF BULK AT MOST 1048576: true; the input reads as it did. -/
def safePlaysUptoRow : OpenClaim := { program := "ytoeaoedlpmohoaagreat", sum := "7d4170262a6c5779b3fbb59ff8c88156d5ebfa4a29b824441141fa6a5a1ea0e8", func := "hydrant/hydrantlaw28.SafePlays", spec := "safePlays", inPlace := ["internal/bytealg.IndexByteString"], unfollowed := true, recurses := true, plainKeys := false, apart := false, narrowed := true }
def SafePlaysUptoSaid : Prop := safePlaysUptoRow.holds Tryz.pinned (OpenSpec.upto safePlaysSpec)

/-- 'hydrantlaw28.SafeGauges', WHERE WHAT IT READS IS OF BULK AT MOST 1048576: true; the input reads as it did. -/
def safeGaugesUptoRow : OpenClaim := { program := "ytoeaoedlpmohoaagreat", sum := "7d4170262a6c5779b3fbb59ff8c88156d5ebfa4a29b824441141fa6a5a1ea0e8", func := "hydrant/hydrantlaw28.SafeGauges", spec := "safeGauges", inPlace := ["internal/bytealg.IndexByteString"], unfollowed := true, recurses := true, plainKeys := false, apart := false, narrowed := true }
def SafeGaugesUptoSaid : Prop := safeGaugesUptoRow.holds Tryz.pinned (OpenSpec.upto safeGaugesSpec)

/-- 'hydrantlaw28.SafeTickets', WHERE WHAT IT READS IS OF BULK AT MOST 1048576: true; the input reads as it did. -/
def safeTicketsUptoRow : OpenClaim := { program := "ytoeaoedlpmohoaagreat", sum := "7d4170262a6c5779b3fbb59ff8c88156d5ebfa4a29b824441141fa6a5a1ea0e8", func := "hydrant/hydrantlaw28.SafeTickets", spec := "safeTickets", inPlace := ["internal/bytealg.IndexByteString"], unfollowed := true, recurses := true, plainKeys := false, apart := false, narrowed := true }
def SafeTicketsUptoSaid : Prop := safeTicketsUptoRow.holds Tryz.pinned (OpenSpec.upto safeTicketsSpec)

/-- 'hydrantlaw28.SafeLeast', WHERE WHAT IT READS IS OF BULK AT MOST 1048576: true; the input reads as it did. -/
def safeLeastUptoRow : OpenClaim := { program := "ytoeaoedlpmohoaagreat", sum := "7d4170262a6c5779b3fbb59ff8c88156d5ebfa4a29b824441141fa6a5a1ea0e8", func := "hydrant/hydrantlaw28.SafeLeast", spec := "safeLeast", inPlace := ["internal/bytealg.IndexByteString"], unfollowed := true, recurses := true, plainKeys := false, apart := false, narrowed := true }
def SafeLeastUptoSaid : Prop := safeLeastUptoRow.holds Tryz.pinned (OpenSpec.upto safeLeastSpec)

/-- 'hydrantlaw28.SafeSlots', WHERE WHAT IT READS IS OF BULK AT MOST 1048576: true; the input reads as it did. -/
def safeSlotsUptoRow : OpenClaim := { program := "ytoeaoedlpmohoaagreat", sum := "7d4170262a6c5779b3fbb59ff8c88156d5ebfa4a29b824441141fa6a5a1ea0e8", func := "hydrant/hydrantlaw28.SafeSlots", spec := "safeSlots", inPlace := ["internal/bytealg.IndexByteString"], unfollowed := true, recurses := true, plainKeys := false, apart := false, narrowed := true }
def SafeSlotsUptoSaid : Prop := safeSlotsUptoRow.holds Tryz.pinned (OpenSpec.upto safeSlotsSpec)

/-- 'hydrantlaw28.SafeSpread', WHERE WHAT IT READS IS OF BULK AT MOST 1048576: true; the input reads as it did. -/
def safeSpreadUptoRow : OpenClaim := { program := "ytoeaoedlpmohoaagreat", sum := "7d4170262a6c5779b3fbb59ff8c88156d5ebfa4a29b824441141fa6a5a1ea0e8", func := "hydrant/hydrantlaw28.SafeSpread", spec := "safeSpread", inPlace := ["internal/bytealg.IndexByteString"], unfollowed := true, recurses := true, plainKeys := false, apart := false, narrowed := true }
def SafeSpreadUptoSaid : Prop := safeSpreadUptoRow.holds Tryz.pinned (OpenSpec.upto safeSpreadSpec)

end Rows
end Go.Proofs.YtoeaoedlpmohoaaGreat
