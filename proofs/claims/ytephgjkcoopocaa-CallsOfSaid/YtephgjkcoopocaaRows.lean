/-
  No cell of these rows narrows 'for every input' (looked for: loops, veiled, ifaces, maps, wideKeys, modest, calm, conditions, laid).
  DERIVED. THE GIVEN ROWS OF THIS SEAT. 12 by the template 'for every input the law returns true; each argument reads behind the call as it read before'; 0 by the template 'total and deterministic' (their statements: YtephgjkcoopocaaTotals.lean).
  GIVEN WITH THE SEED: the statements are not yours to turn. If you find one false, say at which input.
  Laid BY PROGRAM, IN A SANDBOX (cutbox-rows.mjs): the forced cells as the released guide's own fill.sh prints them over the translation 6cf488976549bddf… (all of the seat's roots in one cut). By AI agents, Wed Nov 11 2026. No macro, syntax, notation, axiom, sorry.
-/
import Derived.Test.YtephgjkcoopocaaChecked
import GoSem.Claim
import GoSem.ClaimJoined
import GoSem.ClaimMapViews
import Derived.JoinedTies
import Derived.KernelRfl
namespace Go.Proofs.Ytephgjkcoopocaa
/- THE CELL 'sum', in the pinned program and in every row, IS THE sha256 OF THE DUMP (.gsa) THAT YtephgjkcoopocaaProg.lean LOADS. Nothing in Lean hashes anything: it is a label: what it is worth is what the hold of that sum in a sandbox is worth. -/
noncomputable def Try.pinned : Pinned := { name := "ytephgjkcoopocaa", sum := "6cf488976549bddf38c213a4bab74345de4d4357eccd0b775a9fc432ff53550e", checked := Try.checked }
namespace Rows
def none {H : Type} : Left H := { results := [], args := [] }

/-- 'hydrantlaw17.GatesPlace': WHATEVER THE INPUT: true; the input reads as it did. -/
def gatesPlaceSpec : ChangeSpec := { name := "gatesPlace", fn := fun _ => fun
  | [d1, d2] => { results := [.lit (.bool true)], args := [d1, d2] }
  | _ => none }
def gatesPlaceRow : OpenClaim := { program := "ytephgjkcoopocaa", sum := "6cf488976549bddf38c213a4bab74345de4d4357eccd0b775a9fc432ff53550e", func := "hydrant/hydrantlaw17.GatesPlace", spec := "gatesPlace", unfollowed := true, recurses := true, plainKeys := false, apart := false }
def GatesPlaceSaid : Prop := gatesPlaceRow.holds Try.pinned (OpenSpec.ofChange gatesPlaceSpec)

/-- ITS FALSE NEIGHBOUR: 'it returns false'. Refute it at one input. -/
def gatesPlaceWrong : ChangeSpec := { name := "gatesPlace", fn := fun _ => fun
  | [d1, d2] => { results := [.lit (.bool false)], args := [d1, d2] }
  | _ => none }
def GatesPlaceWrongFalsely : Prop := gatesPlaceRow.holds Try.pinned (OpenSpec.ofChange gatesPlaceWrong)

/-- 'hydrantlaw03.NamesAre': WHATEVER THE INPUT: true; the input reads as it did. -/
def namesAreSpec : ChangeSpec := { name := "namesAre", fn := fun _ => fun
  | [d] => { results := [.lit (.bool true)], args := [d] }
  | _ => none }
def namesAreRow : OpenClaim := { program := "ytephgjkcoopocaa", sum := "6cf488976549bddf38c213a4bab74345de4d4357eccd0b775a9fc432ff53550e", func := "hydrant/hydrantlaw03.NamesAre", spec := "namesAre", inPlace := ["internal/bytealg.IndexByteString"], unfollowed := true, recurses := true, plainKeys := false, apart := false }
def NamesAreSaid : Prop := namesAreRow.holds Try.pinned (OpenSpec.ofChange namesAreSpec)

/-- ITS FALSE NEIGHBOUR: 'it returns false'. Refute it at one input. -/
def namesAreWrong : ChangeSpec := { name := "namesAre", fn := fun _ => fun
  | [d] => { results := [.lit (.bool false)], args := [d] }
  | _ => none }
def NamesAreWrongFalsely : Prop := namesAreRow.holds Try.pinned (OpenSpec.ofChange namesAreWrong)

/-- 'hydrantlaw03.NamesParts': WHATEVER THE INPUT: true; the input reads as it did. -/
def namesPartsSpec : ChangeSpec := { name := "namesParts", fn := fun _ => fun
  | [d1, d2] => { results := [.lit (.bool true)], args := [d1, d2] }
  | _ => none }
def namesPartsRow : OpenClaim := { program := "ytephgjkcoopocaa", sum := "6cf488976549bddf38c213a4bab74345de4d4357eccd0b775a9fc432ff53550e", func := "hydrant/hydrantlaw03.NamesParts", spec := "namesParts", inPlace := ["internal/bytealg.IndexByteString"], unfollowed := true, recurses := true, plainKeys := false, apart := false }
def NamesPartsSaid : Prop := namesPartsRow.holds Try.pinned (OpenSpec.ofChange namesPartsSpec)

/-- ITS FALSE NEIGHBOUR: 'it returns false'. Refute it at one input. -/
def namesPartsWrong : ChangeSpec := { name := "namesParts", fn := fun _ => fun
  | [d1, d2] => { results := [.lit (.bool false)], args := [d1, d2] }
  | _ => none }
def NamesPartsWrongFalsely : Prop := namesPartsRow.holds Try.pinned (OpenSpec.ofChange namesPartsWrong)

/-- 'hydrantlaw03.NamesBack': WHATEVER THE INPUT: true; the input reads as it did. -/
def namesBackSpec : ChangeSpec := { name := "namesBack", fn := fun _ => fun
  | [d1, d2] => { results := [.lit (.bool true)], args := [d1, d2] }
  | _ => none }
def namesBackRow : OpenClaim := { program := "ytephgjkcoopocaa", sum := "6cf488976549bddf38c213a4bab74345de4d4357eccd0b775a9fc432ff53550e", func := "hydrant/hydrantlaw03.NamesBack", spec := "namesBack", inPlace := ["internal/bytealg.IndexByteString"], unfollowed := true, recurses := true, plainKeys := false, apart := false }
def NamesBackSaid : Prop := namesBackRow.holds Try.pinned (OpenSpec.ofChange namesBackSpec)

/-- ITS FALSE NEIGHBOUR: 'it returns false'. Refute it at one input. -/
def namesBackWrong : ChangeSpec := { name := "namesBack", fn := fun _ => fun
  | [d1, d2] => { results := [.lit (.bool false)], args := [d1, d2] }
  | _ => none }
def NamesBackWrongFalsely : Prop := namesBackRow.holds Try.pinned (OpenSpec.ofChange namesBackWrong)

/-- 'hydrantlaw03.NamesKinds': WHATEVER THE INPUT: true; the input reads as it did. -/
def namesKindsSpec : ChangeSpec := { name := "namesKinds", fn := fun _ => fun
  | [d] => { results := [.lit (.bool true)], args := [d] }
  | _ => none }
def namesKindsRow : OpenClaim := { program := "ytephgjkcoopocaa", sum := "6cf488976549bddf38c213a4bab74345de4d4357eccd0b775a9fc432ff53550e", func := "hydrant/hydrantlaw03.NamesKinds", spec := "namesKinds", inPlace := ["internal/bytealg.IndexByteString"], unfollowed := true, recurses := true, plainKeys := false, apart := false }
def NamesKindsSaid : Prop := namesKindsRow.holds Try.pinned (OpenSpec.ofChange namesKindsSpec)

/-- ITS FALSE NEIGHBOUR: 'it returns false'. Refute it at one input. -/
def namesKindsWrong : ChangeSpec := { name := "namesKinds", fn := fun _ => fun
  | [d] => { results := [.lit (.bool false)], args := [d] }
  | _ => none }
def NamesKindsWrongFalsely : Prop := namesKindsRow.holds Try.pinned (OpenSpec.ofChange namesKindsWrong)

/-- 'hydrantlaw03.NamesCut': WHATEVER THE INPUT: true; the input reads as it did. -/
def namesCutSpec : ChangeSpec := { name := "namesCut", fn := fun _ => fun
  | [d1, d2] => { results := [.lit (.bool true)], args := [d1, d2] }
  | _ => none }
def namesCutRow : OpenClaim := { program := "ytephgjkcoopocaa", sum := "6cf488976549bddf38c213a4bab74345de4d4357eccd0b775a9fc432ff53550e", func := "hydrant/hydrantlaw03.NamesCut", spec := "namesCut", inPlace := ["internal/bytealg.IndexByteString"], unfollowed := true, recurses := true, plainKeys := false, apart := false }
def NamesCutSaid : Prop := namesCutRow.holds Try.pinned (OpenSpec.ofChange namesCutSpec)

/-- ITS FALSE NEIGHBOUR: 'it returns false'. Refute it at one input. -/
def namesCutWrong : ChangeSpec := { name := "namesCut", fn := fun _ => fun
  | [d1, d2] => { results := [.lit (.bool false)], args := [d1, d2] }
  | _ => none }
def NamesCutWrongFalsely : Prop := namesCutRow.holds Try.pinned (OpenSpec.ofChange namesCutWrong)

/-- 'hydrantlaw14.SlotsTell': WHATEVER THE INPUT: true; the input reads as it did. -/
def slotsTellSpec : ChangeSpec := { name := "slotsTell", fn := fun _ => fun
  | [d1, d2] => { results := [.lit (.bool true)], args := [d1, d2] }
  | _ => none }
def slotsTellRow : OpenClaim := { program := "ytephgjkcoopocaa", sum := "6cf488976549bddf38c213a4bab74345de4d4357eccd0b775a9fc432ff53550e", func := "hydrant/hydrantlaw14.SlotsTell", spec := "slotsTell", unfollowed := true, recurses := true, plainKeys := false, apart := false }
def SlotsTellSaid : Prop := slotsTellRow.holds Try.pinned (OpenSpec.ofChange slotsTellSpec)

/-- ITS FALSE NEIGHBOUR: 'it returns false'. Refute it at one input. -/
def slotsTellWrong : ChangeSpec := { name := "slotsTell", fn := fun _ => fun
  | [d1, d2] => { results := [.lit (.bool false)], args := [d1, d2] }
  | _ => none }
def SlotsTellWrongFalsely : Prop := slotsTellRow.holds Try.pinned (OpenSpec.ofChange slotsTellWrong)

/-- 'hydrantlaw14.SlotsFresh': WHATEVER THE INPUT: true; the input reads as it did. -/
def slotsFreshSpec : ChangeSpec := { name := "slotsFresh", fn := fun _ => fun
  | [d] => { results := [.lit (.bool true)], args := [d] }
  | _ => none }
def slotsFreshRow : OpenClaim := { program := "ytephgjkcoopocaa", sum := "6cf488976549bddf38c213a4bab74345de4d4357eccd0b775a9fc432ff53550e", func := "hydrant/hydrantlaw14.SlotsFresh", spec := "slotsFresh", unfollowed := true, recurses := true, plainKeys := false, apart := false }
def SlotsFreshSaid : Prop := slotsFreshRow.holds Try.pinned (OpenSpec.ofChange slotsFreshSpec)

/-- ITS FALSE NEIGHBOUR: 'it returns false'. Refute it at one input. -/
def slotsFreshWrong : ChangeSpec := { name := "slotsFresh", fn := fun _ => fun
  | [d] => { results := [.lit (.bool false)], args := [d] }
  | _ => none }
def SlotsFreshWrongFalsely : Prop := slotsFreshRow.holds Try.pinned (OpenSpec.ofChange slotsFreshWrong)

/-- 'hydrantlaw14.SlotsBack': WHATEVER THE INPUT: true; the input reads as it did. -/
def slotsBackSpec : ChangeSpec := { name := "slotsBack", fn := fun _ => fun
  | [d] => { results := [.lit (.bool true)], args := [d] }
  | _ => none }
def slotsBackRow : OpenClaim := { program := "ytephgjkcoopocaa", sum := "6cf488976549bddf38c213a4bab74345de4d4357eccd0b775a9fc432ff53550e", func := "hydrant/hydrantlaw14.SlotsBack", spec := "slotsBack", unfollowed := true, recurses := true, plainKeys := false, apart := false }
def SlotsBackSaid : Prop := slotsBackRow.holds Try.pinned (OpenSpec.ofChange slotsBackSpec)

/-- ITS FALSE NEIGHBOUR: 'it returns false'. Refute it at one input. -/
def slotsBackWrong : ChangeSpec := { name := "slotsBack", fn := fun _ => fun
  | [d] => { results := [.lit (.bool false)], args := [d] }
  | _ => none }
def SlotsBackWrongFalsely : Prop := slotsBackRow.holds Try.pinned (OpenSpec.ofChange slotsBackWrong)

/-- 'hydrantlaw14.SlotsPush': WHATEVER THE INPUT: true; the input reads as it did. -/
def slotsPushSpec : ChangeSpec := { name := "slotsPush", fn := fun _ => fun
  | [d1, d2] => { results := [.lit (.bool true)], args := [d1, d2] }
  | _ => none }
def slotsPushRow : OpenClaim := { program := "ytephgjkcoopocaa", sum := "6cf488976549bddf38c213a4bab74345de4d4357eccd0b775a9fc432ff53550e", func := "hydrant/hydrantlaw14.SlotsPush", spec := "slotsPush", unfollowed := true, recurses := true, plainKeys := false, apart := false }
def SlotsPushSaid : Prop := slotsPushRow.holds Try.pinned (OpenSpec.ofChange slotsPushSpec)

/-- ITS FALSE NEIGHBOUR: 'it returns false'. Refute it at one input. -/
def slotsPushWrong : ChangeSpec := { name := "slotsPush", fn := fun _ => fun
  | [d1, d2] => { results := [.lit (.bool false)], args := [d1, d2] }
  | _ => none }
def SlotsPushWrongFalsely : Prop := slotsPushRow.holds Try.pinned (OpenSpec.ofChange slotsPushWrong)

/-- 'hydrantlaw14.SlotsDrain': WHATEVER THE INPUT: true; the input reads as it did. -/
def slotsDrainSpec : ChangeSpec := { name := "slotsDrain", fn := fun _ => fun
  | [d] => { results := [.lit (.bool true)], args := [d] }
  | _ => none }
def slotsDrainRow : OpenClaim := { program := "ytephgjkcoopocaa", sum := "6cf488976549bddf38c213a4bab74345de4d4357eccd0b775a9fc432ff53550e", func := "hydrant/hydrantlaw14.SlotsDrain", spec := "slotsDrain", unfollowed := true, recurses := true, plainKeys := false, apart := false }
def SlotsDrainSaid : Prop := slotsDrainRow.holds Try.pinned (OpenSpec.ofChange slotsDrainSpec)

/-- ITS FALSE NEIGHBOUR: 'it returns false'. Refute it at one input. -/
def slotsDrainWrong : ChangeSpec := { name := "slotsDrain", fn := fun _ => fun
  | [d] => { results := [.lit (.bool false)], args := [d] }
  | _ => none }
def SlotsDrainWrongFalsely : Prop := slotsDrainRow.holds Try.pinned (OpenSpec.ofChange slotsDrainWrong)

/-- 'hydrantlaw10.CallsOf': WHATEVER THE INPUT: true; the input reads as it did. -/
def callsOfSpec : ChangeSpec := { name := "callsOf", fn := fun _ => fun
  | [d] => { results := [.lit (.bool true)], args := [d] }
  | _ => none }
def callsOfRow : OpenClaim := { program := "ytephgjkcoopocaa", sum := "6cf488976549bddf38c213a4bab74345de4d4357eccd0b775a9fc432ff53550e", func := "hydrant/hydrantlaw10.CallsOf", spec := "callsOf", unfollowed := true, recurses := true, plainKeys := false, apart := false }
def CallsOfSaid : Prop := callsOfRow.holds Try.pinned (OpenSpec.ofChange callsOfSpec)

/-- ITS FALSE NEIGHBOUR: 'it returns false'. Refute it at one input. -/
def callsOfWrong : ChangeSpec := { name := "callsOf", fn := fun _ => fun
  | [d] => { results := [.lit (.bool false)], args := [d] }
  | _ => none }
def CallsOfWrongFalsely : Prop := callsOfRow.holds Try.pinned (OpenSpec.ofChange callsOfWrong)

/- THE SECOND FORM. 'bulk': how many values and letters a reading holds, each counted each time it is reached (what is shared counts as often as it is met; a slice's spare places count too). A statement '..UptoSaid' is the law's where the arguments, and the package variables that the reading takes, are together of bulk at most 1048576: NARROWER than '..Said'. Prove '..Said' where nothing that the law and all that it calls make is longer than what came in: it says more and counts as full. Else prove '..UptoSaid'. A law counts once. -/
mutual
def uptoBulk {H : Type} : DataW H → Nat
  | .lit (.string bytes) => bytes.length + 1
  | .lit _ => 1
  | .nil => 1
  | .ptr d => uptoBulk d + 1
  | .slice elems spare => uptoBulkAll elems + uptoBulkAll spare + 1
  | .agg parts => uptoBulkAll parts + 1
  | .iface _ d => uptoBulk d + 1
  | .map entries => uptoBulkEntries entries + 1
  | .held _ => 1
def uptoBulkAll {H : Type} : List (DataW H) → Nat
  | [] => 0
  | d :: r => uptoBulk d + uptoBulkAll r
def uptoBulkEntries {H : Type} : List (Lit × DataW H) → Nat
  | [] => 0
  | x :: r => uptoBulkEntry x + uptoBulkEntries r
def uptoBulkEntry {H : Type} : Lit × DataW H → Nat
  | (.string bytes, d) => bytes.length + uptoBulk d + 1
  | (_, d) => uptoBulk d + 1
 end
def uptoSmall : (H : Type) → List (DataW H) → Bool := fun _ ds => decide (uptoBulkAll ds ≤ 1048576)
def OpenSpec.upto (s : _root_.Go.ChangeSpec) : _root_.Go.OpenSpec := { _root_.Go.OpenSpec.ofChange s with cond := some uptoSmall }

/-- 'hydrantlaw17.GatesPlace', WHERE WHAT IT READS IS OF BULK AT MOST 1048576: true; the input reads as it did. -/
def gatesPlaceUptoRow : OpenClaim := { program := "ytephgjkcoopocaa", sum := "6cf488976549bddf38c213a4bab74345de4d4357eccd0b775a9fc432ff53550e", func := "hydrant/hydrantlaw17.GatesPlace", spec := "gatesPlace", unfollowed := true, recurses := true, plainKeys := false, apart := false, narrowed := true }
def GatesPlaceUptoSaid : Prop := gatesPlaceUptoRow.holds Try.pinned (OpenSpec.upto gatesPlaceSpec)

/-- 'hydrantlaw03.NamesAre', WHERE WHAT IT READS IS OF BULK AT MOST 1048576: true; the input reads as it did. -/
def namesAreUptoRow : OpenClaim := { program := "ytephgjkcoopocaa", sum := "6cf488976549bddf38c213a4bab74345de4d4357eccd0b775a9fc432ff53550e", func := "hydrant/hydrantlaw03.NamesAre", spec := "namesAre", inPlace := ["internal/bytealg.IndexByteString"], unfollowed := true, recurses := true, plainKeys := false, apart := false, narrowed := true }
def NamesAreUptoSaid : Prop := namesAreUptoRow.holds Try.pinned (OpenSpec.upto namesAreSpec)

/-- 'hydrantlaw03.NamesParts', WHERE WHAT IT READS IS OF BULK AT MOST 1048576: true; the input reads as it did. -/
def namesPartsUptoRow : OpenClaim := { program := "ytephgjkcoopocaa", sum := "6cf488976549bddf38c213a4bab74345de4d4357eccd0b775a9fc432ff53550e", func := "hydrant/hydrantlaw03.NamesParts", spec := "namesParts", inPlace := ["internal/bytealg.IndexByteString"], unfollowed := true, recurses := true, plainKeys := false, apart := false, narrowed := true }
def NamesPartsUptoSaid : Prop := namesPartsUptoRow.holds Try.pinned (OpenSpec.upto namesPartsSpec)

/-- 'hydrantlaw03.NamesBack', WHERE WHAT IT READS IS OF BULK AT MOST 1048576: true; the input reads as it did. -/
def namesBackUptoRow : OpenClaim := { program := "ytephgjkcoopocaa", sum := "6cf488976549bddf38c213a4bab74345de4d4357eccd0b775a9fc432ff53550e", func := "hydrant/hydrantlaw03.NamesBack", spec := "namesBack", inPlace := ["internal/bytealg.IndexByteString"], unfollowed := true, recurses := true, plainKeys := false, apart := false, narrowed := true }
def NamesBackUptoSaid : Prop := namesBackUptoRow.holds Try.pinned (OpenSpec.upto namesBackSpec)

/-- 'hydrantlaw03.NamesKinds', WHERE WHAT IT READS IS OF BULK AT MOST 1048576: true; the input reads as it did. -/
def namesKindsUptoRow : OpenClaim := { program := "ytephgjkcoopocaa", sum := "6cf488976549bddf38c213a4bab74345de4d4357eccd0b775a9fc432ff53550e", func := "hydrant/hydrantlaw03.NamesKinds", spec := "namesKinds", inPlace := ["internal/bytealg.IndexByteString"], unfollowed := true, recurses := true, plainKeys := false, apart := false, narrowed := true }
def NamesKindsUptoSaid : Prop := namesKindsUptoRow.holds Try.pinned (OpenSpec.upto namesKindsSpec)

/-- 'hydrantlaw03.NamesCut', WHERE WHAT IT READS IS OF BULK AT MOST 1048576: true; the input reads as it did. -/
def namesCutUptoRow : OpenClaim := { program := "ytephgjkcoopocaa", sum := "6cf488976549bddf38c213a4bab74345de4d4357eccd0b775a9fc432ff53550e", func := "hydrant/hydrantlaw03.NamesCut", spec := "namesCut", inPlace := ["internal/bytealg.IndexByteString"], unfollowed := true, recurses := true, plainKeys := false, apart := false, narrowed := true }
def NamesCutUptoSaid : Prop := namesCutUptoRow.holds Try.pinned (OpenSpec.upto namesCutSpec)

/-- 'hydrantlaw14.SlotsTell', WHERE WHAT IT READS IS OF BULK AT MOST 1048576: true; the input reads as it did. -/
def slotsTellUptoRow : OpenClaim := { program := "ytephgjkcoopocaa", sum := "6cf488976549bddf38c213a4bab74345de4d4357eccd0b775a9fc432ff53550e", func := "hydrant/hydrantlaw14.SlotsTell", spec := "slotsTell", unfollowed := true, recurses := true, plainKeys := false, apart := false, narrowed := true }
def SlotsTellUptoSaid : Prop := slotsTellUptoRow.holds Try.pinned (OpenSpec.upto slotsTellSpec)

/-- 'hydrantlaw14.SlotsFresh', WHERE WHAT IT READS IS OF BULK AT MOST 1048576: true; the input reads as it did. -/
def slotsFreshUptoRow : OpenClaim := { program := "ytephgjkcoopocaa", sum := "6cf488976549bddf38c213a4bab74345de4d4357eccd0b775a9fc432ff53550e", func := "hydrant/hydrantlaw14.SlotsFresh", spec := "slotsFresh", unfollowed := true, recurses := true, plainKeys := false, apart := false, narrowed := true }
def SlotsFreshUptoSaid : Prop := slotsFreshUptoRow.holds Try.pinned (OpenSpec.upto slotsFreshSpec)

/-- 'hydrantlaw14.SlotsBack', WHERE WHAT IT READS IS OF BULK AT MOST 1048576: true; the input reads as it did. -/
def slotsBackUptoRow : OpenClaim := { program := "ytephgjkcoopocaa", sum := "6cf488976549bddf38c213a4bab74345de4d4357eccd0b775a9fc432ff53550e", func := "hydrant/hydrantlaw14.SlotsBack", spec := "slotsBack", unfollowed := true, recurses := true, plainKeys := false, apart := false, narrowed := true }
def SlotsBackUptoSaid : Prop := slotsBackUptoRow.holds Try.pinned (OpenSpec.upto slotsBackSpec)

/-- 'hydrantlaw14.SlotsPush', WHERE WHAT IT READS IS OF BULK AT MOST 1048576: true; the input reads as it did. -/
def slotsPushUptoRow : OpenClaim := { program := "ytephgjkcoopocaa", sum := "6cf488976549bddf38c213a4bab74345de4d4357eccd0b775a9fc432ff53550e", func := "hydrant/hydrantlaw14.SlotsPush", spec := "slotsPush", unfollowed := true, recurses := true, plainKeys := false, apart := false, narrowed := true }
def SlotsPushUptoSaid : Prop := slotsPushUptoRow.holds Try.pinned (OpenSpec.upto slotsPushSpec)

/-- 'hydrantlaw14.SlotsDrain', WHERE WHAT IT READS IS OF BULK AT MOST 1048576: true; the input reads as it did. -/
def slotsDrainUptoRow : OpenClaim := { program := "ytephgjkcoopocaa", sum := "6cf488976549bddf38c213a4bab74345de4d4357eccd0b775a9fc432ff53550e", func := "hydrant/hydrantlaw14.SlotsDrain", spec := "slotsDrain", unfollowed := true, recurses := true, plainKeys := false, apart := false, narrowed := true }
def SlotsDrainUptoSaid : Prop := slotsDrainUptoRow.holds Try.pinned (OpenSpec.upto slotsDrainSpec)

/-- 'hydrantlaw10.CallsOf', WHERE WHAT IT READS IS OF BULK AT MOST 1048576: true; the input reads as it did. -/
def callsOfUptoRow : OpenClaim := { program := "ytephgjkcoopocaa", sum := "6cf488976549bddf38c213a4bab74345de4d4357eccd0b775a9fc432ff53550e", func := "hydrant/hydrantlaw10.CallsOf", spec := "callsOf", unfollowed := true, recurses := true, plainKeys := false, apart := false, narrowed := true }
def CallsOfUptoSaid : Prop := callsOfUptoRow.holds Try.pinned (OpenSpec.upto callsOfSpec)

end Rows
end Go.Proofs.Ytephgjkcoopocaa
