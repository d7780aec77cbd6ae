/-
  No cell of these rows narrows 'for every input' (looked for: loops, veiled, ifaces, maps, wideKeys, modest, calm, conditions, laid).
  DERIVED. THE GIVEN ROWS OF THIS SEAT. 4 by the template 'for every input the law returns true; each argument reads behind the call as it read before'; 0 by the template 'total and deterministic' (their statements: YtdemanikmaafeaaTotals.lean).
  GIVEN WITH THE SEED: the statements are not yours to turn. If you find one false, say at which input.
  Laid BY PROGRAM, IN A SANDBOX (cutbox-rows.mjs): the forced cells as the released guide's own fill.sh prints them over the translation 98694e0742655023… (all of the seat's roots in one cut). By AI agents, Wed Nov 11 2026. No macro, syntax, notation, axiom, sorry.
-/
import Derived.Test.YtdemanikmaafeaaChecked
import GoSem.Claim
import GoSem.ClaimJoined
import GoSem.ClaimMapViews
import Derived.JoinedTies
import Derived.KernelRfl
namespace Go.Proofs.Ytdemanikmaafeaa
/- THE CELL 'sum', in the pinned program and in every row, IS THE sha256 OF THE DUMP (.gsa) THAT YtdemanikmaafeaaProg.lean LOADS. Nothing in Lean hashes anything: it is a label: what it is worth is what the hold of that sum in a sandbox is worth. -/
noncomputable def Try.pinned : Pinned := { name := "ytdemanikmaafeaa", sum := "98694e0742655023f28ff16f62eee36e16345b164d460152ea8f798c4298300b", checked := Try.checked }
namespace Rows
def none {H : Type} : Left H := { results := [], args := [] }

/-- 'steelyardlaw05.PairNumbers': WHATEVER THE INPUT: true; the input reads as it did. -/
def pairNumbersSpec : ChangeSpec := { name := "pairNumbers", fn := fun _ => fun
  | [] => { results := [.lit (.bool true)], args := [] }
  | _ => none }
def pairNumbersRow : OpenClaim := { program := "ytdemanikmaafeaa", sum := "98694e0742655023f28ff16f62eee36e16345b164d460152ea8f798c4298300b", func := "steelyard/steelyardlaw05.PairNumbers", spec := "pairNumbers", inPlace := ["math.Float64frombits", "math.Float64bits"], unfollowed := true, recurses := true, apart := false }
def PairNumbersSaid : Prop := pairNumbersRow.holds Try.pinned (OpenSpec.ofChange pairNumbersSpec)

/-- ITS FALSE NEIGHBOUR: 'it returns false'. Refute it at one input. -/
def pairNumbersWrong : ChangeSpec := { name := "pairNumbers", fn := fun _ => fun
  | [] => { results := [.lit (.bool false)], args := [] }
  | _ => none }
def PairNumbersWrongFalsely : Prop := pairNumbersRow.holds Try.pinned (OpenSpec.ofChange pairNumbersWrong)

/-- 'steelyardlaw05.PairSteps': WHATEVER THE INPUT: true; the input reads as it did. -/
def pairStepsSpec : ChangeSpec := { name := "pairSteps", fn := fun _ => fun
  | [d1, d2, d3, d4] => { results := [.lit (.bool true)], args := [d1, d2, d3, d4] }
  | _ => none }
def pairStepsRow : OpenClaim := { program := "ytdemanikmaafeaa", sum := "98694e0742655023f28ff16f62eee36e16345b164d460152ea8f798c4298300b", func := "steelyard/steelyardlaw05.PairSteps", spec := "pairSteps", inPlace := ["math.Float64frombits", "math.Float64bits"], unfollowed := true, recurses := true, apart := false }
def PairStepsSaid : Prop := pairStepsRow.holds Try.pinned (OpenSpec.ofChange pairStepsSpec)

/-- ITS FALSE NEIGHBOUR: 'it returns false'. Refute it at one input. -/
def pairStepsWrong : ChangeSpec := { name := "pairSteps", fn := fun _ => fun
  | [d1, d2, d3, d4] => { results := [.lit (.bool false)], args := [d1, d2, d3, d4] }
  | _ => none }
def PairStepsWrongFalsely : Prop := pairStepsRow.holds Try.pinned (OpenSpec.ofChange pairStepsWrong)

/-- 'steelyardlaw05.PairExact': WHATEVER THE INPUT: true; the input reads as it did. -/
def pairExactSpec : ChangeSpec := { name := "pairExact", fn := fun _ => fun
  | [d1, d2] => { results := [.lit (.bool true)], args := [d1, d2] }
  | _ => none }
def pairExactRow : OpenClaim := { program := "ytdemanikmaafeaa", sum := "98694e0742655023f28ff16f62eee36e16345b164d460152ea8f798c4298300b", func := "steelyard/steelyardlaw05.PairExact", spec := "pairExact", inPlace := ["math.Float64frombits", "math.Float64bits"], unfollowed := true, recurses := true, apart := false }
def PairExactSaid : Prop := pairExactRow.holds Try.pinned (OpenSpec.ofChange pairExactSpec)

/-- ITS FALSE NEIGHBOUR: 'it returns false'. Refute it at one input. -/
def pairExactWrong : ChangeSpec := { name := "pairExact", fn := fun _ => fun
  | [d1, d2] => { results := [.lit (.bool false)], args := [d1, d2] }
  | _ => none }
def PairExactWrongFalsely : Prop := pairExactRow.holds Try.pinned (OpenSpec.ofChange pairExactWrong)

/-- 'steelyardlaw05.PairNear': WHATEVER THE INPUT: true; the input reads as it did. -/
def pairNearSpec : ChangeSpec := { name := "pairNear", fn := fun _ => fun
  | [d1, d2] => { results := [.lit (.bool true)], args := [d1, d2] }
  | _ => none }
def pairNearRow : OpenClaim := { program := "ytdemanikmaafeaa", sum := "98694e0742655023f28ff16f62eee36e16345b164d460152ea8f798c4298300b", func := "steelyard/steelyardlaw05.PairNear", spec := "pairNear", inPlace := ["math.Float64frombits", "math.Float64bits"], unfollowed := true, recurses := true, apart := false }
def PairNearSaid : Prop := pairNearRow.holds Try.pinned (OpenSpec.ofChange pairNearSpec)

/-- ITS FALSE NEIGHBOUR: 'it returns false'. Refute it at one input. -/
def pairNearWrong : ChangeSpec := { name := "pairNear", fn := fun _ => fun
  | [d1, d2] => { results := [.lit (.bool false)], args := [d1, d2] }
  | _ => none }
def PairNearWrongFalsely : Prop := pairNearRow.holds Try.pinned (OpenSpec.ofChange pairNearWrong)

/- THE SECOND FORM. 'bulk': how many values and letters a reading holds, each counted each time it is reached (what is shared counts as often as it is met; a slice's spare places count too). A statement '..UptoSaid' is the law's where the arguments, and the package variables that the reading takes, are together of bulk at most 1048576: NARROWER than '..Said'. Prove '..Said' where nothing that the law and all that it calls make is longer than what came in: it says more and counts as full. Else prove '..UptoSaid'. A law counts once. -/
mutual
def uptoBulk {H : Type} : DataW H → Nat
  | .lit (.string bytes) => bytes.length + 1
  | .lit _ => 1
  | .nil => 1
  | .ptr d => uptoBulk d + 1
  | .slice elems spare => uptoBulkAll elems + uptoBulkAll spare + 1
  | .agg parts => uptoBulkAll parts + 1
  | .iface _ d => uptoBulk d + 1
  | .map entries => uptoBulkEntries entries + 1
  | .held _ => 1
def uptoBulkAll {H : Type} : List (DataW H) → Nat
  | [] => 0
  | d :: r => uptoBulk d + uptoBulkAll r
def uptoBulkEntries {H : Type} : List (Lit × DataW H) → Nat
  | [] => 0
  | x :: r => uptoBulkEntry x + uptoBulkEntries r
def uptoBulkEntry {H : Type} : Lit × DataW H → Nat
  | (.string bytes, d) => bytes.length + uptoBulk d + 1
  | (_, d) => uptoBulk d + 1
 end
def uptoSmall : (H : Type) → List (DataW H) → Bool := fun _ ds => decide (uptoBulkAll ds ≤ 1048576)
def OpenSpec.upto (s : _root_.Go.ChangeSpec) : _root_.Go.OpenSpec := { _root_.Go.OpenSpec.ofChange s with cond := some uptoSmall }

/-- 'steelyardlaw05.PairNumbers', WHERE WHAT IT READS IS OF BULK AT MOST 1048576: true; the input reads as it did. -/
def pairNumbersUptoRow : OpenClaim := { program := "ytdemanikmaafeaa", sum := "98694e0742655023f28ff16f62eee36e16345b164d460152ea8f798c4298300b", func := "steelyard/steelyardlaw05.PairNumbers", spec := "pairNumbers", inPlace := ["math.Float64frombits", "math.Float64bits"], unfollowed := true, recurses := true, apart := false, narrowed := true }
def PairNumbersUptoSaid : Prop := pairNumbersUptoRow.holds Try.pinned (OpenSpec.upto pairNumbersSpec)

/-- 'steelyardlaw05.PairSteps', WHERE WHAT IT READS IS OF BULK AT MOST 1048576: true; the input reads as it did. -/
def pairStepsUptoRow : OpenClaim := { program := "ytdemanikmaafeaa", sum := "98694e0742655023f28ff16f62eee36e16345b164d460152ea8f798c4298300b", func := "steelyard/steelyardlaw05.PairSteps", spec := "pairSteps", inPlace := ["math.Float64frombits", "math.Float64bits"], unfollowed := true, recurses := true, apart := false, narrowed := true }
def PairStepsUptoSaid : Prop := pairStepsUptoRow.holds Try.pinned (OpenSpec.upto pairStepsSpec)

/-- 'steelyardlaw05.PairExact', WHERE WHAT IT READS IS OF BULK AT MOST 1048576: true; the input reads as it did. -/
def pairExactUptoRow : OpenClaim := { program := "ytdemanikmaafeaa", sum := "98694e0742655023f28ff16f62eee36e16345b164d460152ea8f798c4298300b", func := "steelyard/steelyardlaw05.PairExact", spec := "pairExact", inPlace := ["math.Float64frombits", "math.Float64bits"], unfollowed := true, recurses := true, apart := false, narrowed := true }
def PairExactUptoSaid : Prop := pairExactUptoRow.holds Try.pinned (OpenSpec.upto pairExactSpec)

/-- 'steelyardlaw05.PairNear', WHERE WHAT IT READS IS OF BULK AT MOST 1048576: true; the input reads as it did. -/
def pairNearUptoRow : OpenClaim := { program := "ytdemanikmaafeaa", sum := "98694e0742655023f28ff16f62eee36e16345b164d460152ea8f798c4298300b", func := "steelyard/steelyardlaw05.PairNear", spec := "pairNear", inPlace := ["math.Float64frombits", "math.Float64bits"], unfollowed := true, recurses := true, apart := false, narrowed := true }
def PairNearUptoSaid : Prop := pairNearUptoRow.holds Try.pinned (OpenSpec.upto pairNearSpec)

end Rows
end Go.Proofs.Ytdemanikmaafeaa
