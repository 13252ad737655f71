/-
  No cell of these rows narrows 'for every input' (looked for: loops, veiled, ifaces, maps, wideKeys, modest, calm, conditions, laid).
  DERIVED. THE GIVEN ROWS OF THIS SEAT. 12 by the template 'for every input the law returns true; each argument reads behind the call as it read before'; 0 by the template 'total and deterministic' (their statements: YtblcehhggncmaaaTotals.lean).
  GIVEN WITH THE SEED: the statements are not yours to turn. If you find one false, say at which input.
  Laid BY PROGRAM, IN A SANDBOX (cutbox-rows.mjs): the forced cells as the released guide's own fill.sh prints them over the translation 327cb82097255186… (all of the seat's roots in one cut). By AI agents, Wed Nov 11 2026. No macro, syntax, notation, axiom, sorry.
-/
import Derived.Test.YtblcehhggncmaaaChecked
import GoSem.Claim
import GoSem.ClaimJoined
import GoSem.ClaimMapViews
import Derived.JoinedTies
import Derived.KernelRfl
namespace Go.Proofs.Ytblcehhggncmaaa
/- THE CELL 'sum', in the pinned program and in every row, IS THE sha256 OF THE DUMP (.gsa) THAT YtblcehhggncmaaaProg.lean LOADS. Nothing in Lean hashes anything: it is a label: what it is worth is what the hold of that sum in a sandbox is worth. -/
noncomputable def Try.pinned : Pinned := { name := "ytblcehhggncmaaa", sum := "327cb82097255186175da1b2ac71690369e289b737d222f977700db284b7de79", checked := Try.checked }
namespace Rows
def none {H : Type} : Left H := { results := [], args := [] }

/-- 'hydrantlaw01.TagWords': WHATEVER THE INPUT: true; the input reads as it did. -/
def tagWordsSpec : ChangeSpec := { name := "tagWords", fn := fun _ => fun
  | [d1, d2, d3] => { results := [.lit (.bool true)], args := [d1, d2, d3] }
  | _ => none }
def tagWordsRow : OpenClaim := { program := "ytblcehhggncmaaa", sum := "327cb82097255186175da1b2ac71690369e289b737d222f977700db284b7de79", func := "hydrant/hydrantlaw01.TagWords", spec := "tagWords", apart := false }
def TagWordsSaid : Prop := tagWordsRow.holds Try.pinned (OpenSpec.ofChange tagWordsSpec)

/-- ITS FALSE NEIGHBOUR: 'it returns false'. Refute it at one input. -/
def tagWordsWrong : ChangeSpec := { name := "tagWords", fn := fun _ => fun
  | [d1, d2, d3] => { results := [.lit (.bool false)], args := [d1, d2, d3] }
  | _ => none }
def TagWordsWrongFalsely : Prop := tagWordsRow.holds Try.pinned (OpenSpec.ofChange tagWordsWrong)

/-- 'hydrantlaw01.TagBack': WHATEVER THE INPUT: true; the input reads as it did. -/
def tagBackSpec : ChangeSpec := { name := "tagBack", fn := fun _ => fun
  | [d1, d2, d3] => { results := [.lit (.bool true)], args := [d1, d2, d3] }
  | _ => none }
def tagBackRow : OpenClaim := { program := "ytblcehhggncmaaa", sum := "327cb82097255186175da1b2ac71690369e289b737d222f977700db284b7de79", func := "hydrant/hydrantlaw01.TagBack", spec := "tagBack", apart := false }
def TagBackSaid : Prop := tagBackRow.holds Try.pinned (OpenSpec.ofChange tagBackSpec)

/-- ITS FALSE NEIGHBOUR: 'it returns false'. Refute it at one input. -/
def tagBackWrong : ChangeSpec := { name := "tagBack", fn := fun _ => fun
  | [d1, d2, d3] => { results := [.lit (.bool false)], args := [d1, d2, d3] }
  | _ => none }
def TagBackWrongFalsely : Prop := tagBackRow.holds Try.pinned (OpenSpec.ofChange tagBackWrong)

/-- 'hydrantlaw01.TagAnother': WHATEVER THE INPUT: true; the input reads as it did. -/
def tagAnotherSpec : ChangeSpec := { name := "tagAnother", fn := fun _ => fun
  | [d1, d2, d3] => { results := [.lit (.bool true)], args := [d1, d2, d3] }
  | _ => none }
def tagAnotherRow : OpenClaim := { program := "ytblcehhggncmaaa", sum := "327cb82097255186175da1b2ac71690369e289b737d222f977700db284b7de79", func := "hydrant/hydrantlaw01.TagAnother", spec := "tagAnother", apart := false }
def TagAnotherSaid : Prop := tagAnotherRow.holds Try.pinned (OpenSpec.ofChange tagAnotherSpec)

/-- ITS FALSE NEIGHBOUR: 'it returns false'. Refute it at one input. -/
def tagAnotherWrong : ChangeSpec := { name := "tagAnother", fn := fun _ => fun
  | [d1, d2, d3] => { results := [.lit (.bool false)], args := [d1, d2, d3] }
  | _ => none }
def TagAnotherWrongFalsely : Prop := tagAnotherRow.holds Try.pinned (OpenSpec.ofChange tagAnotherWrong)

/-- 'hydrantlaw01.TagSteps': WHATEVER THE INPUT: true; the input reads as it did. -/
def tagStepsSpec : ChangeSpec := { name := "tagSteps", fn := fun _ => fun
  | [d1, d2, d3] => { results := [.lit (.bool true)], args := [d1, d2, d3] }
  | _ => none }
def tagStepsRow : OpenClaim := { program := "ytblcehhggncmaaa", sum := "327cb82097255186175da1b2ac71690369e289b737d222f977700db284b7de79", func := "hydrant/hydrantlaw01.TagSteps", spec := "tagSteps", apart := false }
def TagStepsSaid : Prop := tagStepsRow.holds Try.pinned (OpenSpec.ofChange tagStepsSpec)

/-- ITS FALSE NEIGHBOUR: 'it returns false'. Refute it at one input. -/
def tagStepsWrong : ChangeSpec := { name := "tagSteps", fn := fun _ => fun
  | [d1, d2, d3] => { results := [.lit (.bool false)], args := [d1, d2, d3] }
  | _ => none }
def TagStepsWrongFalsely : Prop := tagStepsRow.holds Try.pinned (OpenSpec.ofChange tagStepsWrong)

/-- 'hydrantlaw01.TagOrder': WHATEVER THE INPUT: true; the input reads as it did. -/
def tagOrderSpec : ChangeSpec := { name := "tagOrder", fn := fun _ => fun
  | [d1, d2, d3, d4] => { results := [.lit (.bool true)], args := [d1, d2, d3, d4] }
  | _ => none }
def tagOrderRow : OpenClaim := { program := "ytblcehhggncmaaa", sum := "327cb82097255186175da1b2ac71690369e289b737d222f977700db284b7de79", func := "hydrant/hydrantlaw01.TagOrder", spec := "tagOrder", apart := false }
def TagOrderSaid : Prop := tagOrderRow.holds Try.pinned (OpenSpec.ofChange tagOrderSpec)

/-- ITS FALSE NEIGHBOUR: 'it returns false'. Refute it at one input. -/
def tagOrderWrong : ChangeSpec := { name := "tagOrder", fn := fun _ => fun
  | [d1, d2, d3, d4] => { results := [.lit (.bool false)], args := [d1, d2, d3, d4] }
  | _ => none }
def TagOrderWrongFalsely : Prop := tagOrderRow.holds Try.pinned (OpenSpec.ofChange tagOrderWrong)

/-- 'hydrantlaw16.LimboTells': WHATEVER THE INPUT: true; the input reads as it did. -/
def limboTellsSpec : ChangeSpec := { name := "limboTells", fn := fun _ => fun
  | [d1, d2, d3, d4] => { results := [.lit (.bool true)], args := [d1, d2, d3, d4] }
  | _ => none }
def limboTellsRow : OpenClaim := { program := "ytblcehhggncmaaa", sum := "327cb82097255186175da1b2ac71690369e289b737d222f977700db284b7de79", func := "hydrant/hydrantlaw16.LimboTells", spec := "limboTells", unfollowed := true, recurses := true, apart := false }
def LimboTellsSaid : Prop := limboTellsRow.holds Try.pinned (OpenSpec.ofChange limboTellsSpec)

/-- ITS FALSE NEIGHBOUR: 'it returns false'. Refute it at one input. -/
def limboTellsWrong : ChangeSpec := { name := "limboTells", fn := fun _ => fun
  | [d1, d2, d3, d4] => { results := [.lit (.bool false)], args := [d1, d2, d3, d4] }
  | _ => none }
def LimboTellsWrongFalsely : Prop := limboTellsRow.holds Try.pinned (OpenSpec.ofChange limboTellsWrong)

/-- 'hydrantlaw16.LimboDue': WHATEVER THE INPUT: true; the input reads as it did. -/
def limboDueSpec : ChangeSpec := { name := "limboDue", fn := fun _ => fun
  | [d1, d2, d3] => { results := [.lit (.bool true)], args := [d1, d2, d3] }
  | _ => none }
def limboDueRow : OpenClaim := { program := "ytblcehhggncmaaa", sum := "327cb82097255186175da1b2ac71690369e289b737d222f977700db284b7de79", func := "hydrant/hydrantlaw16.LimboDue", spec := "limboDue", unfollowed := true, recurses := true, apart := false }
def LimboDueSaid : Prop := limboDueRow.holds Try.pinned (OpenSpec.ofChange limboDueSpec)

/-- ITS FALSE NEIGHBOUR: 'it returns false'. Refute it at one input. -/
def limboDueWrong : ChangeSpec := { name := "limboDue", fn := fun _ => fun
  | [d1, d2, d3] => { results := [.lit (.bool false)], args := [d1, d2, d3] }
  | _ => none }
def LimboDueWrongFalsely : Prop := limboDueRow.holds Try.pinned (OpenSpec.ofChange limboDueWrong)

/-- 'hydrantlaw16.LimboLater': WHATEVER THE INPUT: true; the input reads as it did. -/
def limboLaterSpec : ChangeSpec := { name := "limboLater", fn := fun _ => fun
  | [d1, d2, d3] => { results := [.lit (.bool true)], args := [d1, d2, d3] }
  | _ => none }
def limboLaterRow : OpenClaim := { program := "ytblcehhggncmaaa", sum := "327cb82097255186175da1b2ac71690369e289b737d222f977700db284b7de79", func := "hydrant/hydrantlaw16.LimboLater", spec := "limboLater", unfollowed := true, recurses := true, apart := false }
def LimboLaterSaid : Prop := limboLaterRow.holds Try.pinned (OpenSpec.ofChange limboLaterSpec)

/-- ITS FALSE NEIGHBOUR: 'it returns false'. Refute it at one input. -/
def limboLaterWrong : ChangeSpec := { name := "limboLater", fn := fun _ => fun
  | [d1, d2, d3] => { results := [.lit (.bool false)], args := [d1, d2, d3] }
  | _ => none }
def LimboLaterWrongFalsely : Prop := limboLaterRow.holds Try.pinned (OpenSpec.ofChange limboLaterWrong)

/-- 'hydrantlaw16.LimboMarked': WHATEVER THE INPUT: true; the input reads as it did. -/
def limboMarkedSpec : ChangeSpec := { name := "limboMarked", fn := fun _ => fun
  | [d1, d2, d3] => { results := [.lit (.bool true)], args := [d1, d2, d3] }
  | _ => none }
def limboMarkedRow : OpenClaim := { program := "ytblcehhggncmaaa", sum := "327cb82097255186175da1b2ac71690369e289b737d222f977700db284b7de79", func := "hydrant/hydrantlaw16.LimboMarked", spec := "limboMarked", unfollowed := true, recurses := true, apart := false }
def LimboMarkedSaid : Prop := limboMarkedRow.holds Try.pinned (OpenSpec.ofChange limboMarkedSpec)

/-- ITS FALSE NEIGHBOUR: 'it returns false'. Refute it at one input. -/
def limboMarkedWrong : ChangeSpec := { name := "limboMarked", fn := fun _ => fun
  | [d1, d2, d3] => { results := [.lit (.bool false)], args := [d1, d2, d3] }
  | _ => none }
def LimboMarkedWrongFalsely : Prop := limboMarkedRow.holds Try.pinned (OpenSpec.ofChange limboMarkedWrong)

/-- 'hydrantlaw17.GatesTell': WHATEVER THE INPUT: true; the input reads as it did. -/
def gatesTellSpec : ChangeSpec := { name := "gatesTell", fn := fun _ => fun
  | [d1, d2, d3] => { results := [.lit (.bool true)], args := [d1, d2, d3] }
  | _ => none }
def gatesTellRow : OpenClaim := { program := "ytblcehhggncmaaa", sum := "327cb82097255186175da1b2ac71690369e289b737d222f977700db284b7de79", func := "hydrant/hydrantlaw17.GatesTell", spec := "gatesTell", unfollowed := true, recurses := true, apart := false }
def GatesTellSaid : Prop := gatesTellRow.holds Try.pinned (OpenSpec.ofChange gatesTellSpec)

/-- ITS FALSE NEIGHBOUR: 'it returns false'. Refute it at one input. -/
def gatesTellWrong : ChangeSpec := { name := "gatesTell", fn := fun _ => fun
  | [d1, d2, d3] => { results := [.lit (.bool false)], args := [d1, d2, d3] }
  | _ => none }
def GatesTellWrongFalsely : Prop := gatesTellRow.holds Try.pinned (OpenSpec.ofChange gatesTellWrong)

/-- 'hydrantlaw17.GatesGo': WHATEVER THE INPUT: true; the input reads as it did. -/
def gatesGoSpec : ChangeSpec := { name := "gatesGo", fn := fun _ => fun
  | [d1, d2] => { results := [.lit (.bool true)], args := [d1, d2] }
  | _ => none }
def gatesGoRow : OpenClaim := { program := "ytblcehhggncmaaa", sum := "327cb82097255186175da1b2ac71690369e289b737d222f977700db284b7de79", func := "hydrant/hydrantlaw17.GatesGo", spec := "gatesGo", unfollowed := true, recurses := true, apart := false }
def GatesGoSaid : Prop := gatesGoRow.holds Try.pinned (OpenSpec.ofChange gatesGoSpec)

/-- ITS FALSE NEIGHBOUR: 'it returns false'. Refute it at one input. -/
def gatesGoWrong : ChangeSpec := { name := "gatesGo", fn := fun _ => fun
  | [d1, d2] => { results := [.lit (.bool false)], args := [d1, d2] }
  | _ => none }
def GatesGoWrongFalsely : Prop := gatesGoRow.holds Try.pinned (OpenSpec.ofChange gatesGoWrong)

/-- 'hydrantlaw17.GatesEnds': WHATEVER THE INPUT: true; the input reads as it did. -/
def gatesEndsSpec : ChangeSpec := { name := "gatesEnds", fn := fun _ => fun
  | [d] => { results := [.lit (.bool true)], args := [d] }
  | _ => none }
def gatesEndsRow : OpenClaim := { program := "ytblcehhggncmaaa", sum := "327cb82097255186175da1b2ac71690369e289b737d222f977700db284b7de79", func := "hydrant/hydrantlaw17.GatesEnds", spec := "gatesEnds", unfollowed := true, recurses := true, apart := false }
def GatesEndsSaid : Prop := gatesEndsRow.holds Try.pinned (OpenSpec.ofChange gatesEndsSpec)

/-- ITS FALSE NEIGHBOUR: 'it returns false'. Refute it at one input. -/
def gatesEndsWrong : ChangeSpec := { name := "gatesEnds", fn := fun _ => fun
  | [d] => { results := [.lit (.bool false)], args := [d] }
  | _ => none }
def GatesEndsWrongFalsely : Prop := gatesEndsRow.holds Try.pinned (OpenSpec.ofChange gatesEndsWrong)

/- THE SECOND FORM. 'bulk': how many values and letters a reading holds, each counted each time it is reached (what is shared counts as often as it is met; a slice's spare places count too). A statement '..UptoSaid' is the law's where the arguments, and the package variables that the reading takes, are together of bulk at most 1048576: NARROWER than '..Said'. Prove '..Said' where nothing that the law and all that it calls make is longer than what came in: it says more and counts as full. Else prove '..UptoSaid'. A law counts once. -/
mutual
def uptoBulk {H : Type} : DataW H → Nat
  | .lit (.string bytes) => bytes.length + 1
  | .lit _ => 1
  | .nil => 1
  | .ptr d => uptoBulk d + 1
  | .slice elems spare => uptoBulkAll elems + uptoBulkAll spare + 1
  | .agg parts => uptoBulkAll parts + 1
  | .iface _ d => uptoBulk d + 1
  | .map entries => uptoBulkEntries entries + 1
  | .held _ => 1
def uptoBulkAll {H : Type} : List (DataW H) → Nat
  | [] => 0
  | d :: r => uptoBulk d + uptoBulkAll r
def uptoBulkEntries {H : Type} : List (Lit × DataW H) → Nat
  | [] => 0
  | x :: r => uptoBulkEntry x + uptoBulkEntries r
def uptoBulkEntry {H : Type} : Lit × DataW H → Nat
  | (.string bytes, d) => bytes.length + uptoBulk d + 1
  | (_, d) => uptoBulk d + 1
 end
def uptoSmall : (H : Type) → List (DataW H) → Bool := fun _ ds => decide (uptoBulkAll ds ≤ 1048576)
def OpenSpec.upto (s : _root_.Go.ChangeSpec) : _root_.Go.OpenSpec := { _root_.Go.OpenSpec.ofChange s with cond := some uptoSmall }

/-- 'hydrantlaw01.TagWords', WHERE WHAT IT READS IS OF BULK AT MOST 1048576: true; the input reads as it did. -/
def tagWordsUptoRow : OpenClaim := { program := "ytblcehhggncmaaa", sum := "327cb82097255186175da1b2ac71690369e289b737d222f977700db284b7de79", func := "hydrant/hydrantlaw01.TagWords", spec := "tagWords", apart := false, narrowed := true }
def TagWordsUptoSaid : Prop := tagWordsUptoRow.holds Try.pinned (OpenSpec.upto tagWordsSpec)

/-- 'hydrantlaw01.TagBack', WHERE WHAT IT READS IS OF BULK AT MOST 1048576: true; the input reads as it did. -/
def tagBackUptoRow : OpenClaim := { program := "ytblcehhggncmaaa", sum := "327cb82097255186175da1b2ac71690369e289b737d222f977700db284b7de79", func := "hydrant/hydrantlaw01.TagBack", spec := "tagBack", apart := false, narrowed := true }
def TagBackUptoSaid : Prop := tagBackUptoRow.holds Try.pinned (OpenSpec.upto tagBackSpec)

/-- 'hydrantlaw01.TagAnother', WHERE WHAT IT READS IS OF BULK AT MOST 1048576: true; the input reads as it did. -/
def tagAnotherUptoRow : OpenClaim := { program := "ytblcehhggncmaaa", sum := "327cb82097255186175da1b2ac71690369e289b737d222f977700db284b7de79", func := "hydrant/hydrantlaw01.TagAnother", spec := "tagAnother", apart := false, narrowed := true }
def TagAnotherUptoSaid : Prop := tagAnotherUptoRow.holds Try.pinned (OpenSpec.upto tagAnotherSpec)

/-- 'hydrantlaw01.TagSteps', WHERE WHAT IT READS IS OF BULK AT MOST 1048576: true; the input reads as it did. -/
def tagStepsUptoRow : OpenClaim := { program := "ytblcehhggncmaaa", sum := "327cb82097255186175da1b2ac71690369e289b737d222f977700db284b7de79", func := "hydrant/hydrantlaw01.TagSteps", spec := "tagSteps", apart := false, narrowed := true }
def TagStepsUptoSaid : Prop := tagStepsUptoRow.holds Try.pinned (OpenSpec.upto tagStepsSpec)

/-- 'hydrantlaw01.TagOrder', WHERE WHAT IT READS IS OF BULK AT MOST 1048576: true; the input reads as it did. -/
def tagOrderUptoRow : OpenClaim := { program := "ytblcehhggncmaaa", sum := "327cb82097255186175da1b2ac71690369e289b737d222f977700db284b7de79", func := "hydrant/hydrantlaw01.TagOrder", spec := "tagOrder", apart := false, narrowed := true }
def TagOrderUptoSaid : Prop := tagOrderUptoRow.holds Try.pinned (OpenSpec.upto tagOrderSpec)

/-- 'hydrantlaw16.LimboTells', WHERE WHAT IT READS IS OF BULK AT MOST 1048576: true; the input reads as it did. -/
def limboTellsUptoRow : OpenClaim := { program := "ytblcehhggncmaaa", sum := "327cb82097255186175da1b2ac71690369e289b737d222f977700db284b7de79", func := "hydrant/hydrantlaw16.LimboTells", spec := "limboTells", unfollowed := true, recurses := true, apart := false, narrowed := true }
def LimboTellsUptoSaid : Prop := limboTellsUptoRow.holds Try.pinned (OpenSpec.upto limboTellsSpec)

/-- 'hydrantlaw16.LimboDue', WHERE WHAT IT READS IS OF BULK AT MOST 1048576: true; the input reads as it did. -/
def limboDueUptoRow : OpenClaim := { program := "ytblcehhggncmaaa", sum := "327cb82097255186175da1b2ac71690369e289b737d222f977700db284b7de79", func := "hydrant/hydrantlaw16.LimboDue", spec := "limboDue", unfollowed := true, recurses := true, apart := false, narrowed := true }
def LimboDueUptoSaid : Prop := limboDueUptoRow.holds Try.pinned (OpenSpec.upto limboDueSpec)

/-- 'hydrantlaw16.LimboLater', WHERE WHAT IT READS IS OF BULK AT MOST 1048576: true; the input reads as it did. -/
def limboLaterUptoRow : OpenClaim := { program := "ytblcehhggncmaaa", sum := "327cb82097255186175da1b2ac71690369e289b737d222f977700db284b7de79", func := "hydrant/hydrantlaw16.LimboLater", spec := "limboLater", unfollowed := true, recurses := true, apart := false, narrowed := true }
def LimboLaterUptoSaid : Prop := limboLaterUptoRow.holds Try.pinned (OpenSpec.upto limboLaterSpec)

/-- 'hydrantlaw16.LimboMarked', WHERE WHAT IT READS IS OF BULK AT MOST 1048576: true; the input reads as it did. -/
def limboMarkedUptoRow : OpenClaim := { program := "ytblcehhggncmaaa", sum := "327cb82097255186175da1b2ac71690369e289b737d222f977700db284b7de79", func := "hydrant/hydrantlaw16.LimboMarked", spec := "limboMarked", unfollowed := true, recurses := true, apart := false, narrowed := true }
def LimboMarkedUptoSaid : Prop := limboMarkedUptoRow.holds Try.pinned (OpenSpec.upto limboMarkedSpec)

/-- 'hydrantlaw17.GatesTell', WHERE WHAT IT READS IS OF BULK AT MOST 1048576: true; the input reads as it did. -/
def gatesTellUptoRow : OpenClaim := { program := "ytblcehhggncmaaa", sum := "327cb82097255186175da1b2ac71690369e289b737d222f977700db284b7de79", func := "hydrant/hydrantlaw17.GatesTell", spec := "gatesTell", unfollowed := true, recurses := true, apart := false, narrowed := true }
def GatesTellUptoSaid : Prop := gatesTellUptoRow.holds Try.pinned (OpenSpec.upto gatesTellSpec)

/-- 'hydrantlaw17.GatesGo', WHERE WHAT IT READS IS OF BULK AT MOST 1048576: true; the input reads as it did. -/
def gatesGoUptoRow : OpenClaim := { program := "ytblcehhggncmaaa", sum := "327cb82097255186175da1b2ac71690369e289b737d222f977700db284b7de79", func := "hydrant/hydrantlaw17.GatesGo", spec := "gatesGo", unfollowed := true, recurses := true, apart := false, narrowed := true }
def GatesGoUptoSaid : Prop := gatesGoUptoRow.holds Try.pinned (OpenSpec.upto gatesGoSpec)

/-- 'hydrantlaw17.GatesEnds', WHERE WHAT IT READS IS OF BULK AT MOST 1048576: true; the input reads as it did. -/
def gatesEndsUptoRow : OpenClaim := { program := "ytblcehhggncmaaa", sum := "327cb82097255186175da1b2ac71690369e289b737d222f977700db284b7de79", func := "hydrant/hydrantlaw17.GatesEnds", spec := "gatesEnds", unfollowed := true, recurses := true, apart := false, narrowed := true }
def GatesEndsUptoSaid : Prop := gatesEndsUptoRow.holds Try.pinned (OpenSpec.upto gatesEndsSpec)

end Rows
end Go.Proofs.Ytblcehhggncmaaa
