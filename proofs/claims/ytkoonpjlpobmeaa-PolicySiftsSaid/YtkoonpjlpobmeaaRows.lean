/-
  No cell of these rows narrows 'for every input' (looked for: loops, veiled, ifaces, maps, wideKeys, modest, calm, conditions, laid).
  DERIVED. THE GIVEN ROWS OF THIS SEAT. 4 by the template 'for every input the law returns true; each argument reads behind the call as it read before'; 0 by the template 'total and deterministic' (their statements: YtkoonpjlpobmeaaTotals.lean).
  GIVEN WITH THE SEED: the statements are not yours to turn. If you find one false, say at which input.
  Laid BY PROGRAM, IN A SANDBOX (cutbox-rows.mjs): the forced cells as the released guide's own fill.sh prints them over the translation 345ad430bee60f42… (all of the seat's roots in one cut). By AI agents, Wed Nov 11 2026. No macro, syntax, notation, axiom, sorry.
-/
import Derived.Test.YtkoonpjlpobmeaaChecked
import GoSem.Claim
import GoSem.ClaimJoined
import GoSem.ClaimMapViews
import Derived.JoinedTies
import Derived.KernelRfl
namespace Go.Proofs.Ytkoonpjlpobmeaa
/- THE CELL 'sum', in the pinned program and in every row, IS THE sha256 OF THE DUMP (.gsa) THAT YtkoonpjlpobmeaaProg.lean LOADS. Nothing in Lean hashes anything: it is a label: what it is worth is what the hold of that sum in a sandbox is worth. -/
noncomputable def Try.pinned : Pinned := { name := "ytkoonpjlpobmeaa", sum := "345ad430bee60f42f87e89f7da73a89c5e040ff5cb079d0b7ac7a0d35feb6360", checked := Try.checked }
namespace Rows
def none {H : Type} : Left H := { results := [], args := [] }

/-- 'steelyardlaw06.PolicyMays': WHATEVER THE INPUT: true; the input reads as it did. -/
def policyMaysSpec : ChangeSpec := { name := "policyMays", fn := fun _ => fun
  | [d] => { results := [.lit (.bool true)], args := [d] }
  | _ => none }
def policyMaysRow : OpenClaim := { program := "ytkoonpjlpobmeaa", sum := "345ad430bee60f42f87e89f7da73a89c5e040ff5cb079d0b7ac7a0d35feb6360", func := "steelyard/steelyardlaw06.PolicyMays", spec := "policyMays", inPlace := ["math.Float64frombits", "math.Float64bits"], apart := false }
def PolicyMaysSaid : Prop := policyMaysRow.holds Try.pinned (OpenSpec.ofChange policyMaysSpec)

/-- ITS FALSE NEIGHBOUR: 'it returns false'. Refute it at one input. -/
def policyMaysWrong : ChangeSpec := { name := "policyMays", fn := fun _ => fun
  | [d] => { results := [.lit (.bool false)], args := [d] }
  | _ => none }
def PolicyMaysWrongFalsely : Prop := policyMaysRow.holds Try.pinned (OpenSpec.ofChange policyMaysWrong)

/-- 'steelyardlaw06.PolicySifts': WHATEVER THE INPUT: true; the input reads as it did. -/
def policySiftsSpec : ChangeSpec := { name := "policySifts", fn := fun _ => fun
  | [d1, d2, d3, d4] => { results := [.lit (.bool true)], args := [d1, d2, d3, d4] }
  | _ => none }
def policySiftsRow : OpenClaim := { program := "ytkoonpjlpobmeaa", sum := "345ad430bee60f42f87e89f7da73a89c5e040ff5cb079d0b7ac7a0d35feb6360", func := "steelyard/steelyardlaw06.PolicySifts", spec := "policySifts", inPlace := ["math.Float64frombits", "math.Float64bits"], apart := false }
def PolicySiftsSaid : Prop := policySiftsRow.holds Try.pinned (OpenSpec.ofChange policySiftsSpec)

/-- ITS FALSE NEIGHBOUR: 'it returns false'. Refute it at one input. -/
def policySiftsWrong : ChangeSpec := { name := "policySifts", fn := fun _ => fun
  | [d1, d2, d3, d4] => { results := [.lit (.bool false)], args := [d1, d2, d3, d4] }
  | _ => none }
def PolicySiftsWrongFalsely : Prop := policySiftsRow.holds Try.pinned (OpenSpec.ofChange policySiftsWrong)

/-- 'steelyardlaw06.PolicyVerdicts': WHATEVER THE INPUT: true; the input reads as it did. -/
def policyVerdictsSpec : ChangeSpec := { name := "policyVerdicts", fn := fun _ => fun
  | [d1, d2, d3] => { results := [.lit (.bool true)], args := [d1, d2, d3] }
  | _ => none }
def policyVerdictsRow : OpenClaim := { program := "ytkoonpjlpobmeaa", sum := "345ad430bee60f42f87e89f7da73a89c5e040ff5cb079d0b7ac7a0d35feb6360", func := "steelyard/steelyardlaw06.PolicyVerdicts", spec := "policyVerdicts", inPlace := ["math.Float64frombits", "math.Float64bits"], apart := false }
def PolicyVerdictsSaid : Prop := policyVerdictsRow.holds Try.pinned (OpenSpec.ofChange policyVerdictsSpec)

/-- ITS FALSE NEIGHBOUR: 'it returns false'. Refute it at one input. -/
def policyVerdictsWrong : ChangeSpec := { name := "policyVerdicts", fn := fun _ => fun
  | [d1, d2, d3] => { results := [.lit (.bool false)], args := [d1, d2, d3] }
  | _ => none }
def PolicyVerdictsWrongFalsely : Prop := policyVerdictsRow.holds Try.pinned (OpenSpec.ofChange policyVerdictsWrong)

/-- 'steelyardlaw06.PolicyParts': WHATEVER THE INPUT: true; the input reads as it did. -/
def policyPartsSpec : ChangeSpec := { name := "policyParts", fn := fun _ => fun
  | [d1, d2, d3] => { results := [.lit (.bool true)], args := [d1, d2, d3] }
  | _ => none }
def policyPartsRow : OpenClaim := { program := "ytkoonpjlpobmeaa", sum := "345ad430bee60f42f87e89f7da73a89c5e040ff5cb079d0b7ac7a0d35feb6360", func := "steelyard/steelyardlaw06.PolicyParts", spec := "policyParts", inPlace := ["math.Float64frombits", "math.Float64bits"], apart := false }
def PolicyPartsSaid : Prop := policyPartsRow.holds Try.pinned (OpenSpec.ofChange policyPartsSpec)

/-- ITS FALSE NEIGHBOUR: 'it returns false'. Refute it at one input. -/
def policyPartsWrong : ChangeSpec := { name := "policyParts", fn := fun _ => fun
  | [d1, d2, d3] => { results := [.lit (.bool false)], args := [d1, d2, d3] }
  | _ => none }
def PolicyPartsWrongFalsely : Prop := policyPartsRow.holds Try.pinned (OpenSpec.ofChange policyPartsWrong)

/- THE SECOND FORM. 'bulk': how many values and letters a reading holds, each counted each time it is reached (what is shared counts as often as it is met; a slice's spare places count too). A statement '..UptoSaid' is the law's where the arguments, and the package variables that the reading takes, are together of bulk at most 1048576: NARROWER than '..Said'. Prove '..Said' where nothing that the law and all that it calls make is longer than what came in: it says more and counts as full. Else prove '..UptoSaid'. A law counts once. -/
mutual
def uptoBulk {H : Type} : DataW H → Nat
  | .lit (.string bytes) => bytes.length + 1
  | .lit _ => 1
  | .nil => 1
  | .ptr d => uptoBulk d + 1
  | .slice elems spare => uptoBulkAll elems + uptoBulkAll spare + 1
  | .agg parts => uptoBulkAll parts + 1
  | .iface _ d => uptoBulk d + 1
  | .map entries => uptoBulkEntries entries + 1
  | .held _ => 1
def uptoBulkAll {H : Type} : List (DataW H) → Nat
  | [] => 0
  | d :: r => uptoBulk d + uptoBulkAll r
def uptoBulkEntries {H : Type} : List (Lit × DataW H) → Nat
  | [] => 0
  | x :: r => uptoBulkEntry x + uptoBulkEntries r
def uptoBulkEntry {H : Type} : Lit × DataW H → Nat
  | (.string bytes, d) => bytes.length + uptoBulk d + 1
  | (_, d) => uptoBulk d + 1
 end
def uptoSmall : (H : Type) → List (DataW H) → Bool := fun _ ds => decide (uptoBulkAll ds ≤ 1048576)
def OpenSpec.upto (s : _root_.Go.ChangeSpec) : _root_.Go.OpenSpec := { _root_.Go.OpenSpec.ofChange s with cond := some uptoSmall }

/-- 'steelyardlaw06.PolicyMays', WHERE WHAT IT READS IS OF BULK AT MOST 1048576: true; the input reads as it did. -/
def policyMaysUptoRow : OpenClaim := { program := "ytkoonpjlpobmeaa", sum := "345ad430bee60f42f87e89f7da73a89c5e040ff5cb079d0b7ac7a0d35feb6360", func := "steelyard/steelyardlaw06.PolicyMays", spec := "policyMays", inPlace := ["math.Float64frombits", "math.Float64bits"], apart := false, narrowed := true }
def PolicyMaysUptoSaid : Prop := policyMaysUptoRow.holds Try.pinned (OpenSpec.upto policyMaysSpec)

/-- 'steelyardlaw06.PolicySifts', WHERE WHAT IT READS IS OF BULK AT MOST 1048576: true; the input reads as it did. -/
def policySiftsUptoRow : OpenClaim := { program := "ytkoonpjlpobmeaa", sum := "345ad430bee60f42f87e89f7da73a89c5e040ff5cb079d0b7ac7a0d35feb6360", func := "steelyard/steelyardlaw06.PolicySifts", spec := "policySifts", inPlace := ["math.Float64frombits", "math.Float64bits"], apart := false, narrowed := true }
def PolicySiftsUptoSaid : Prop := policySiftsUptoRow.holds Try.pinned (OpenSpec.upto policySiftsSpec)

/-- 'steelyardlaw06.PolicyVerdicts', WHERE WHAT IT READS IS OF BULK AT MOST 1048576: true; the input reads as it did. -/
def policyVerdictsUptoRow : OpenClaim := { program := "ytkoonpjlpobmeaa", sum := "345ad430bee60f42f87e89f7da73a89c5e040ff5cb079d0b7ac7a0d35feb6360", func := "steelyard/steelyardlaw06.PolicyVerdicts", spec := "policyVerdicts", inPlace := ["math.Float64frombits", "math.Float64bits"], apart := false, narrowed := true }
def PolicyVerdictsUptoSaid : Prop := policyVerdictsUptoRow.holds Try.pinned (OpenSpec.upto policyVerdictsSpec)

/-- 'steelyardlaw06.PolicyParts', WHERE WHAT IT READS IS OF BULK AT MOST 1048576: true; the input reads as it did. -/
def policyPartsUptoRow : OpenClaim := { program := "ytkoonpjlpobmeaa", sum := "345ad430bee60f42f87e89f7da73a89c5e040ff5cb079d0b7ac7a0d35feb6360", func := "steelyard/steelyardlaw06.PolicyParts", spec := "policyParts", inPlace := ["math.Float64frombits", "math.Float64bits"], apart := false, narrowed := true }
def PolicyPartsUptoSaid : Prop := policyPartsUptoRow.holds Try.pinned (OpenSpec.upto policyPartsSpec)

end Rows
end Go.Proofs.Ytkoonpjlpobmeaa
