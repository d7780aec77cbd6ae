/-
  NARROWER THAN 'FOR EVERY INPUT', by the rows' own cells (each row's printed sentence says how): BitsNumbers: laid · BitsJoins: laid · BitsBack: laid · BitsOrders: laid · BitsNarrows: laid · BitsTotal: laid · BitsSplits: laid · BitsRounds: laid · BitsWide: laid · BitsNexts: laid · BitsBetween: laid.
  DERIVED. THE GIVEN ROWS OF THIS SEAT. 11 by the template 'for every input the law returns true; each argument reads behind the call as it read before'; 0 by the template 'total and deterministic' (their statements: YtjkcgelemidapaaDoorTotals.lean).
  GIVEN WITH THE SEED: the statements are not yours to turn. If you find one false, say at which input.
  Laid BY PROGRAM, IN A SANDBOX (cutbox-rows.mjs): the forced cells as the released guide's own fill.sh prints them over the translation 82c55ef6bbce28e9… (all of the seat's roots in one cut). By AI agents, Wed Nov 11 2026. No macro, syntax, notation, axiom, sorry.
-/
import Derived.Test.YtjkcgelemidapaaDoorChecked
import GoSem.Claim
import GoSem.ClaimJoined
import GoSem.ClaimMapViews
import Derived.JoinedTies
import Derived.KernelRfl
namespace Go.Proofs.YtjkcgelemidapaaDoor
/- THE CELL 'sum', in the pinned program and in every row, IS THE sha256 OF THE DUMP (.gsa) THAT YtjkcgelemidapaaDoorProg.lean LOADS. Nothing in Lean hashes anything: it is a label: what it is worth is what the hold of that sum in a sandbox is worth. -/
noncomputable def Tryd.pinned : Pinned := { name := "ytjkcgelemidapaadoor", sum := "82c55ef6bbce28e991ca0b560ca700d271181ea8b26e8c0d53a7ebd0e28de381", checked := Tryd.checked }
namespace Rows
def none {H : Type} : Left H := { results := [], args := [] }

/- WHAT THE LISTED PACKAGE-LEVEL VARIABLES READ AS WHEN THE CALL BEGINS. Each datum BY PROGRAM (the guide's laid-datum.mjs) off the statement by which the dump's own 'gosem.cut.vars' lays the variable. In a bare row this is a premise. The card (YtjkcgelemidapaaDoorCards.lean) ties it to the program's text. -/
def laid_steelyard_bits_turns {H : Type} : DataW H := .agg [.agg [.lit (.int .i64 0), .lit (.int .i64 0)], .agg [.lit (.int .i64 1), .lit (.int .i64 1)], .agg [.lit (.int .i64 2), .lit (.int .i64 1)], .agg [.lit (.int .i64 1), .lit (.int .i64 2)], .agg [.lit (.int .i64 0), .lit (.int .i64 0)]]

/-- 'steelyardlaw01.BitsNumbers': WHATEVER THE INPUT: true; the input reads as it did. -/
def bitsNumbersSpec : ChangeSpec := { name := "bitsNumbers", fn := fun _ => fun
  | [] => { results := [.lit (.bool true)], args := [] }
  | _ => none }
def bitsNumbersRow : OpenClaim := { program := "ytjkcgelemidapaadoor", sum := "82c55ef6bbce28e991ca0b560ca700d271181ea8b26e8c0d53a7ebd0e28de381", func := "steelyard/steelyardlaw01.BitsNumbers", spec := "bitsNumbers", inPlace := ["math.Float64bits", "math.Float64frombits", "math.Float32frombits", "math.Float32bits"], named := ["steelyard/bits.turns"], apart := false, laid := [("steelyard/bits.turns", laid_steelyard_bits_turns)] }
def BitsNumbersSaid : Prop := bitsNumbersRow.holds Tryd.pinned (OpenSpec.ofChange bitsNumbersSpec)

/-- ITS FALSE NEIGHBOUR: 'it returns false'. Refute it at one input. -/
def bitsNumbersWrong : ChangeSpec := { name := "bitsNumbers", fn := fun _ => fun
  | [] => { results := [.lit (.bool false)], args := [] }
  | _ => none }
def BitsNumbersWrongFalsely : Prop := bitsNumbersRow.holds Tryd.pinned (OpenSpec.ofChange bitsNumbersWrong)

/-- 'steelyardlaw01.BitsJoins': WHATEVER THE INPUT: true; the input reads as it did. -/
def bitsJoinsSpec : ChangeSpec := { name := "bitsJoins", fn := fun _ => fun
  | [d] => { results := [.lit (.bool true)], args := [d] }
  | _ => none }
def bitsJoinsRow : OpenClaim := { program := "ytjkcgelemidapaadoor", sum := "82c55ef6bbce28e991ca0b560ca700d271181ea8b26e8c0d53a7ebd0e28de381", func := "steelyard/steelyardlaw01.BitsJoins", spec := "bitsJoins", inPlace := ["math.Float64bits", "math.Float64frombits", "math.Float32frombits", "math.Float32bits"], named := ["steelyard/bits.turns"], apart := false, laid := [("steelyard/bits.turns", laid_steelyard_bits_turns)] }
def BitsJoinsSaid : Prop := bitsJoinsRow.holds Tryd.pinned (OpenSpec.ofChange bitsJoinsSpec)

/-- ITS FALSE NEIGHBOUR: 'it returns false'. Refute it at one input. -/
def bitsJoinsWrong : ChangeSpec := { name := "bitsJoins", fn := fun _ => fun
  | [d] => { results := [.lit (.bool false)], args := [d] }
  | _ => none }
def BitsJoinsWrongFalsely : Prop := bitsJoinsRow.holds Tryd.pinned (OpenSpec.ofChange bitsJoinsWrong)

/-- 'steelyardlaw01.BitsBack': WHATEVER THE INPUT: true; the input reads as it did. -/
def bitsBackSpec : ChangeSpec := { name := "bitsBack", fn := fun _ => fun
  | [d1, d2] => { results := [.lit (.bool true)], args := [d1, d2] }
  | _ => none }
def bitsBackRow : OpenClaim := { program := "ytjkcgelemidapaadoor", sum := "82c55ef6bbce28e991ca0b560ca700d271181ea8b26e8c0d53a7ebd0e28de381", func := "steelyard/steelyardlaw01.BitsBack", spec := "bitsBack", inPlace := ["math.Float64bits", "math.Float64frombits", "math.Float32frombits", "math.Float32bits"], named := ["steelyard/bits.turns"], apart := false, laid := [("steelyard/bits.turns", laid_steelyard_bits_turns)] }
def BitsBackSaid : Prop := bitsBackRow.holds Tryd.pinned (OpenSpec.ofChange bitsBackSpec)

/-- ITS FALSE NEIGHBOUR: 'it returns false'. Refute it at one input. -/
def bitsBackWrong : ChangeSpec := { name := "bitsBack", fn := fun _ => fun
  | [d1, d2] => { results := [.lit (.bool false)], args := [d1, d2] }
  | _ => none }
def BitsBackWrongFalsely : Prop := bitsBackRow.holds Tryd.pinned (OpenSpec.ofChange bitsBackWrong)

/-- 'steelyardlaw01.BitsOrders': WHATEVER THE INPUT: true; the input reads as it did. -/
def bitsOrdersSpec : ChangeSpec := { name := "bitsOrders", fn := fun _ => fun
  | [d1, d2] => { results := [.lit (.bool true)], args := [d1, d2] }
  | _ => none }
def bitsOrdersRow : OpenClaim := { program := "ytjkcgelemidapaadoor", sum := "82c55ef6bbce28e991ca0b560ca700d271181ea8b26e8c0d53a7ebd0e28de381", func := "steelyard/steelyardlaw01.BitsOrders", spec := "bitsOrders", inPlace := ["math.Float64bits", "math.Float64frombits", "math.Float32frombits", "math.Float32bits"], named := ["steelyard/bits.turns"], apart := false, laid := [("steelyard/bits.turns", laid_steelyard_bits_turns)] }
def BitsOrdersSaid : Prop := bitsOrdersRow.holds Tryd.pinned (OpenSpec.ofChange bitsOrdersSpec)

/-- ITS FALSE NEIGHBOUR: 'it returns false'. Refute it at one input. -/
def bitsOrdersWrong : ChangeSpec := { name := "bitsOrders", fn := fun _ => fun
  | [d1, d2] => { results := [.lit (.bool false)], args := [d1, d2] }
  | _ => none }
def BitsOrdersWrongFalsely : Prop := bitsOrdersRow.holds Tryd.pinned (OpenSpec.ofChange bitsOrdersWrong)

/-- 'steelyardlaw01.BitsNarrows': WHATEVER THE INPUT: true; the input reads as it did. -/
def bitsNarrowsSpec : ChangeSpec := { name := "bitsNarrows", fn := fun _ => fun
  | [d1, d2] => { results := [.lit (.bool true)], args := [d1, d2] }
  | _ => none }
def bitsNarrowsRow : OpenClaim := { program := "ytjkcgelemidapaadoor", sum := "82c55ef6bbce28e991ca0b560ca700d271181ea8b26e8c0d53a7ebd0e28de381", func := "steelyard/steelyardlaw01.BitsNarrows", spec := "bitsNarrows", inPlace := ["math.Float64bits", "math.Float64frombits", "math.Float32frombits", "math.Float32bits"], named := ["steelyard/bits.turns"], apart := false, laid := [("steelyard/bits.turns", laid_steelyard_bits_turns)] }
def BitsNarrowsSaid : Prop := bitsNarrowsRow.holds Tryd.pinned (OpenSpec.ofChange bitsNarrowsSpec)

/-- ITS FALSE NEIGHBOUR: 'it returns false'. Refute it at one input. -/
def bitsNarrowsWrong : ChangeSpec := { name := "bitsNarrows", fn := fun _ => fun
  | [d1, d2] => { results := [.lit (.bool false)], args := [d1, d2] }
  | _ => none }
def BitsNarrowsWrongFalsely : Prop := bitsNarrowsRow.holds Tryd.pinned (OpenSpec.ofChange bitsNarrowsWrong)

/-- 'steelyardlaw01.BitsTotal': WHATEVER THE INPUT: true; the input reads as it did. -/
def bitsTotalSpec : ChangeSpec := { name := "bitsTotal", fn := fun _ => fun
  | [d1, d2, d3] => { results := [.lit (.bool true)], args := [d1, d2, d3] }
  | _ => none }
def bitsTotalRow : OpenClaim := { program := "ytjkcgelemidapaadoor", sum := "82c55ef6bbce28e991ca0b560ca700d271181ea8b26e8c0d53a7ebd0e28de381", func := "steelyard/steelyardlaw01.BitsTotal", spec := "bitsTotal", inPlace := ["math.Float64bits", "math.Float64frombits", "math.Float32frombits", "math.Float32bits"], named := ["steelyard/bits.turns"], apart := false, laid := [("steelyard/bits.turns", laid_steelyard_bits_turns)] }
def BitsTotalSaid : Prop := bitsTotalRow.holds Tryd.pinned (OpenSpec.ofChange bitsTotalSpec)

/-- ITS FALSE NEIGHBOUR: 'it returns false'. Refute it at one input. -/
def bitsTotalWrong : ChangeSpec := { name := "bitsTotal", fn := fun _ => fun
  | [d1, d2, d3] => { results := [.lit (.bool false)], args := [d1, d2, d3] }
  | _ => none }
def BitsTotalWrongFalsely : Prop := bitsTotalRow.holds Tryd.pinned (OpenSpec.ofChange bitsTotalWrong)

/-- 'steelyardlaw01.BitsSplits': WHATEVER THE INPUT: true; the input reads as it did. -/
def bitsSplitsSpec : ChangeSpec := { name := "bitsSplits", fn := fun _ => fun
  | [d1, d2] => { results := [.lit (.bool true)], args := [d1, d2] }
  | _ => none }
def bitsSplitsRow : OpenClaim := { program := "ytjkcgelemidapaadoor", sum := "82c55ef6bbce28e991ca0b560ca700d271181ea8b26e8c0d53a7ebd0e28de381", func := "steelyard/steelyardlaw01.BitsSplits", spec := "bitsSplits", inPlace := ["math.Float64bits", "math.Float64frombits", "math.Float32frombits", "math.Float32bits"], named := ["steelyard/bits.turns"], apart := false, laid := [("steelyard/bits.turns", laid_steelyard_bits_turns)] }
def BitsSplitsSaid : Prop := bitsSplitsRow.holds Tryd.pinned (OpenSpec.ofChange bitsSplitsSpec)

/-- ITS FALSE NEIGHBOUR: 'it returns false'. Refute it at one input. -/
def bitsSplitsWrong : ChangeSpec := { name := "bitsSplits", fn := fun _ => fun
  | [d1, d2] => { results := [.lit (.bool false)], args := [d1, d2] }
  | _ => none }
def BitsSplitsWrongFalsely : Prop := bitsSplitsRow.holds Tryd.pinned (OpenSpec.ofChange bitsSplitsWrong)

/-- 'steelyardlaw01.BitsRounds': WHATEVER THE INPUT: true; the input reads as it did. -/
def bitsRoundsSpec : ChangeSpec := { name := "bitsRounds", fn := fun _ => fun
  | [d] => { results := [.lit (.bool true)], args := [d] }
  | _ => none }
def bitsRoundsRow : OpenClaim := { program := "ytjkcgelemidapaadoor", sum := "82c55ef6bbce28e991ca0b560ca700d271181ea8b26e8c0d53a7ebd0e28de381", func := "steelyard/steelyardlaw01.BitsRounds", spec := "bitsRounds", inPlace := ["math.Float64bits", "math.Float64frombits", "math.Float32frombits", "math.Float32bits"], named := ["steelyard/bits.turns"], apart := false, laid := [("steelyard/bits.turns", laid_steelyard_bits_turns)] }
def BitsRoundsSaid : Prop := bitsRoundsRow.holds Tryd.pinned (OpenSpec.ofChange bitsRoundsSpec)

/-- ITS FALSE NEIGHBOUR: 'it returns false'. Refute it at one input. -/
def bitsRoundsWrong : ChangeSpec := { name := "bitsRounds", fn := fun _ => fun
  | [d] => { results := [.lit (.bool false)], args := [d] }
  | _ => none }
def BitsRoundsWrongFalsely : Prop := bitsRoundsRow.holds Tryd.pinned (OpenSpec.ofChange bitsRoundsWrong)

/-- 'steelyardlaw01.BitsWide': WHATEVER THE INPUT: true; the input reads as it did. -/
def bitsWideSpec : ChangeSpec := { name := "bitsWide", fn := fun _ => fun
  | [d1, d2] => { results := [.lit (.bool true)], args := [d1, d2] }
  | _ => none }
def bitsWideRow : OpenClaim := { program := "ytjkcgelemidapaadoor", sum := "82c55ef6bbce28e991ca0b560ca700d271181ea8b26e8c0d53a7ebd0e28de381", func := "steelyard/steelyardlaw01.BitsWide", spec := "bitsWide", inPlace := ["math.Float64bits", "math.Float64frombits", "math.Float32frombits", "math.Float32bits"], named := ["steelyard/bits.turns"], apart := false, laid := [("steelyard/bits.turns", laid_steelyard_bits_turns)] }
def BitsWideSaid : Prop := bitsWideRow.holds Tryd.pinned (OpenSpec.ofChange bitsWideSpec)

/-- ITS FALSE NEIGHBOUR: 'it returns false'. Refute it at one input. -/
def bitsWideWrong : ChangeSpec := { name := "bitsWide", fn := fun _ => fun
  | [d1, d2] => { results := [.lit (.bool false)], args := [d1, d2] }
  | _ => none }
def BitsWideWrongFalsely : Prop := bitsWideRow.holds Tryd.pinned (OpenSpec.ofChange bitsWideWrong)

/-- 'steelyardlaw01.BitsNexts': WHATEVER THE INPUT: true; the input reads as it did. -/
def bitsNextsSpec : ChangeSpec := { name := "bitsNexts", fn := fun _ => fun
  | [d] => { results := [.lit (.bool true)], args := [d] }
  | _ => none }
def bitsNextsRow : OpenClaim := { program := "ytjkcgelemidapaadoor", sum := "82c55ef6bbce28e991ca0b560ca700d271181ea8b26e8c0d53a7ebd0e28de381", func := "steelyard/steelyardlaw01.BitsNexts", spec := "bitsNexts", inPlace := ["math.Float64bits", "math.Float64frombits", "math.Float32frombits", "math.Float32bits"], named := ["steelyard/bits.turns"], apart := false, laid := [("steelyard/bits.turns", laid_steelyard_bits_turns)] }
def BitsNextsSaid : Prop := bitsNextsRow.holds Tryd.pinned (OpenSpec.ofChange bitsNextsSpec)

/-- ITS FALSE NEIGHBOUR: 'it returns false'. Refute it at one input. -/
def bitsNextsWrong : ChangeSpec := { name := "bitsNexts", fn := fun _ => fun
  | [d] => { results := [.lit (.bool false)], args := [d] }
  | _ => none }
def BitsNextsWrongFalsely : Prop := bitsNextsRow.holds Tryd.pinned (OpenSpec.ofChange bitsNextsWrong)

/-- 'steelyardlaw01.BitsBetween': WHATEVER THE INPUT: true; the input reads as it did. -/
def bitsBetweenSpec : ChangeSpec := { name := "bitsBetween", fn := fun _ => fun
  | [d1, d2] => { results := [.lit (.bool true)], args := [d1, d2] }
  | _ => none }
def bitsBetweenRow : OpenClaim := { program := "ytjkcgelemidapaadoor", sum := "82c55ef6bbce28e991ca0b560ca700d271181ea8b26e8c0d53a7ebd0e28de381", func := "steelyard/steelyardlaw01.BitsBetween", spec := "bitsBetween", inPlace := ["math.Float64bits", "math.Float64frombits", "math.Float32frombits", "math.Float32bits"], named := ["steelyard/bits.turns"], apart := false, laid := [("steelyard/bits.turns", laid_steelyard_bits_turns)] }
def BitsBetweenSaid : Prop := bitsBetweenRow.holds Tryd.pinned (OpenSpec.ofChange bitsBetweenSpec)

/-- ITS FALSE NEIGHBOUR: 'it returns false'. Refute it at one input. -/
def bitsBetweenWrong : ChangeSpec := { name := "bitsBetween", fn := fun _ => fun
  | [d1, d2] => { results := [.lit (.bool false)], args := [d1, d2] }
  | _ => none }
def BitsBetweenWrongFalsely : Prop := bitsBetweenRow.holds Tryd.pinned (OpenSpec.ofChange bitsBetweenWrong)

/- THE SECOND FORM. 'bulk': how many values and letters a reading holds, each counted each time it is reached (what is shared counts as often as it is met; a slice's spare places count too). A statement '..UptoSaid' is the law's where the arguments, and the package variables that the reading takes, are together of bulk at most 1048576: NARROWER than '..Said'. Prove '..Said' where nothing that the law and all that it calls make is longer than what came in: it says more and counts as full. Else prove '..UptoSaid'. A law counts once. -/
mutual
def uptoBulk {H : Type} : DataW H → Nat
  | .lit (.string bytes) => bytes.length + 1
  | .lit _ => 1
  | .nil => 1
  | .ptr d => uptoBulk d + 1
  | .slice elems spare => uptoBulkAll elems + uptoBulkAll spare + 1
  | .agg parts => uptoBulkAll parts + 1
  | .iface _ d => uptoBulk d + 1
  | .map entries => uptoBulkEntries entries + 1
  | .held _ => 1
def uptoBulkAll {H : Type} : List (DataW H) → Nat
  | [] => 0
  | d :: r => uptoBulk d + uptoBulkAll r
def uptoBulkEntries {H : Type} : List (Lit × DataW H) → Nat
  | [] => 0
  | x :: r => uptoBulkEntry x + uptoBulkEntries r
def uptoBulkEntry {H : Type} : Lit × DataW H → Nat
  | (.string bytes, d) => bytes.length + uptoBulk d + 1
  | (_, d) => uptoBulk d + 1
 end
def uptoSmall : (H : Type) → List (DataW H) → Bool := fun _ ds => decide (uptoBulkAll ds ≤ 1048576)
def OpenSpec.upto (s : _root_.Go.ChangeSpec) : _root_.Go.OpenSpec := { _root_.Go.OpenSpec.ofChange s with cond := some uptoSmall }

/-- 'steelyardlaw01.BitsNumbers', WHERE WHAT IT READS IS OF BULK AT MOST 1048576: true; the input reads as it did. -/
def bitsNumbersUptoRow : OpenClaim := { program := "ytjkcgelemidapaadoor", sum := "82c55ef6bbce28e991ca0b560ca700d271181ea8b26e8c0d53a7ebd0e28de381", func := "steelyard/steelyardlaw01.BitsNumbers", spec := "bitsNumbers", inPlace := ["math.Float64bits", "math.Float64frombits", "math.Float32frombits", "math.Float32bits"], named := ["steelyard/bits.turns"], apart := false, laid := [("steelyard/bits.turns", laid_steelyard_bits_turns)], narrowed := true }
def BitsNumbersUptoSaid : Prop := bitsNumbersUptoRow.holds Tryd.pinned (OpenSpec.upto bitsNumbersSpec)

/-- 'steelyardlaw01.BitsJoins', WHERE WHAT IT READS IS OF BULK AT MOST 1048576: true; the input reads as it did. -/
def bitsJoinsUptoRow : OpenClaim := { program := "ytjkcgelemidapaadoor", sum := "82c55ef6bbce28e991ca0b560ca700d271181ea8b26e8c0d53a7ebd0e28de381", func := "steelyard/steelyardlaw01.BitsJoins", spec := "bitsJoins", inPlace := ["math.Float64bits", "math.Float64frombits", "math.Float32frombits", "math.Float32bits"], named := ["steelyard/bits.turns"], apart := false, laid := [("steelyard/bits.turns", laid_steelyard_bits_turns)], narrowed := true }
def BitsJoinsUptoSaid : Prop := bitsJoinsUptoRow.holds Tryd.pinned (OpenSpec.upto bitsJoinsSpec)

/-- 'steelyardlaw01.BitsBack', WHERE WHAT IT READS IS OF BULK AT MOST 1048576: true; the input reads as it did. -/
def bitsBackUptoRow : OpenClaim := { program := "ytjkcgelemidapaadoor", sum := "82c55ef6bbce28e991ca0b560ca700d271181ea8b26e8c0d53a7ebd0e28de381", func := "steelyard/steelyardlaw01.BitsBack", spec := "bitsBack", inPlace := ["math.Float64bits", "math.Float64frombits", "math.Float32frombits", "math.Float32bits"], named := ["steelyard/bits.turns"], apart := false, laid := [("steelyard/bits.turns", laid_steelyard_bits_turns)], narrowed := true }
def BitsBackUptoSaid : Prop := bitsBackUptoRow.holds Tryd.pinned (OpenSpec.upto bitsBackSpec)

/-- 'steelyardlaw01.BitsOrders', WHERE WHAT IT READS IS OF BULK AT MOST 1048576: true; the input reads as it did. -/
def bitsOrdersUptoRow : OpenClaim := { program := "ytjkcgelemidapaadoor", sum := "82c55ef6bbce28e991ca0b560ca700d271181ea8b26e8c0d53a7ebd0e28de381", func := "steelyard/steelyardlaw01.BitsOrders", spec := "bitsOrders", inPlace := ["math.Float64bits", "math.Float64frombits", "math.Float32frombits", "math.Float32bits"], named := ["steelyard/bits.turns"], apart := false, laid := [("steelyard/bits.turns", laid_steelyard_bits_turns)], narrowed := true }
def BitsOrdersUptoSaid : Prop := bitsOrdersUptoRow.holds Tryd.pinned (OpenSpec.upto bitsOrdersSpec)

/-- 'steelyardlaw01.BitsNarrows', WHERE WHAT IT READS IS OF BULK AT MOST 1048576: true; the input reads as it did. -/
def bitsNarrowsUptoRow : OpenClaim := { program := "ytjkcgelemidapaadoor", sum := "82c55ef6bbce28e991ca0b560ca700d271181ea8b26e8c0d53a7ebd0e28de381", func := "steelyard/steelyardlaw01.BitsNarrows", spec := "bitsNarrows", inPlace := ["math.Float64bits", "math.Float64frombits", "math.Float32frombits", "math.Float32bits"], named := ["steelyard/bits.turns"], apart := false, laid := [("steelyard/bits.turns", laid_steelyard_bits_turns)], narrowed := true }
def BitsNarrowsUptoSaid : Prop := bitsNarrowsUptoRow.holds Tryd.pinned (OpenSpec.upto bitsNarrowsSpec)

/-- 'steelyardlaw01.BitsTotal', WHERE WHAT IT READS IS OF BULK AT MOST 1048576: true; the input reads as it did. -/
def bitsTotalUptoRow : OpenClaim := { program := "ytjkcgelemidapaadoor", sum := "82c55ef6bbce28e991ca0b560ca700d271181ea8b26e8c0d53a7ebd0e28de381", func := "steelyard/steelyardlaw01.BitsTotal", spec := "bitsTotal", inPlace := ["math.Float64bits", "math.Float64frombits", "math.Float32frombits", "math.Float32bits"], named := ["steelyard/bits.turns"], apart := false, laid := [("steelyard/bits.turns", laid_steelyard_bits_turns)], narrowed := true }
def BitsTotalUptoSaid : Prop := bitsTotalUptoRow.holds Tryd.pinned (OpenSpec.upto bitsTotalSpec)

/-- 'steelyardlaw01.BitsSplits', WHERE WHAT IT READS IS OF BULK AT MOST 1048576: true; the input reads as it did. -/
def bitsSplitsUptoRow : OpenClaim := { program := "ytjkcgelemidapaadoor", sum := "82c55ef6bbce28e991ca0b560ca700d271181ea8b26e8c0d53a7ebd0e28de381", func := "steelyard/steelyardlaw01.BitsSplits", spec := "bitsSplits", inPlace := ["math.Float64bits", "math.Float64frombits", "math.Float32frombits", "math.Float32bits"], named := ["steelyard/bits.turns"], apart := false, laid := [("steelyard/bits.turns", laid_steelyard_bits_turns)], narrowed := true }
def BitsSplitsUptoSaid : Prop := bitsSplitsUptoRow.holds Tryd.pinned (OpenSpec.upto bitsSplitsSpec)

/-- 'steelyardlaw01.BitsRounds', WHERE WHAT IT READS IS OF BULK AT MOST 1048576: true; the input reads as it did. -/
def bitsRoundsUptoRow : OpenClaim := { program := "ytjkcgelemidapaadoor", sum := "82c55ef6bbce28e991ca0b560ca700d271181ea8b26e8c0d53a7ebd0e28de381", func := "steelyard/steelyardlaw01.BitsRounds", spec := "bitsRounds", inPlace := ["math.Float64bits", "math.Float64frombits", "math.Float32frombits", "math.Float32bits"], named := ["steelyard/bits.turns"], apart := false, laid := [("steelyard/bits.turns", laid_steelyard_bits_turns)], narrowed := true }
def BitsRoundsUptoSaid : Prop := bitsRoundsUptoRow.holds Tryd.pinned (OpenSpec.upto bitsRoundsSpec)

/-- 'steelyardlaw01.BitsWide', WHERE WHAT IT READS IS OF BULK AT MOST 1048576: true; the input reads as it did. -/
def bitsWideUptoRow : OpenClaim := { program := "ytjkcgelemidapaadoor", sum := "82c55ef6bbce28e991ca0b560ca700d271181ea8b26e8c0d53a7ebd0e28de381", func := "steelyard/steelyardlaw01.BitsWide", spec := "bitsWide", inPlace := ["math.Float64bits", "math.Float64frombits", "math.Float32frombits", "math.Float32bits"], named := ["steelyard/bits.turns"], apart := false, laid := [("steelyard/bits.turns", laid_steelyard_bits_turns)], narrowed := true }
def BitsWideUptoSaid : Prop := bitsWideUptoRow.holds Tryd.pinned (OpenSpec.upto bitsWideSpec)

/-- 'steelyardlaw01.BitsNexts', WHERE WHAT IT READS IS OF BULK AT MOST 1048576: true; the input reads as it did. -/
def bitsNextsUptoRow : OpenClaim := { program := "ytjkcgelemidapaadoor", sum := "82c55ef6bbce28e991ca0b560ca700d271181ea8b26e8c0d53a7ebd0e28de381", func := "steelyard/steelyardlaw01.BitsNexts", spec := "bitsNexts", inPlace := ["math.Float64bits", "math.Float64frombits", "math.Float32frombits", "math.Float32bits"], named := ["steelyard/bits.turns"], apart := false, laid := [("steelyard/bits.turns", laid_steelyard_bits_turns)], narrowed := true }
def BitsNextsUptoSaid : Prop := bitsNextsUptoRow.holds Tryd.pinned (OpenSpec.upto bitsNextsSpec)

/-- 'steelyardlaw01.BitsBetween', WHERE WHAT IT READS IS OF BULK AT MOST 1048576: true; the input reads as it did. -/
def bitsBetweenUptoRow : OpenClaim := { program := "ytjkcgelemidapaadoor", sum := "82c55ef6bbce28e991ca0b560ca700d271181ea8b26e8c0d53a7ebd0e28de381", func := "steelyard/steelyardlaw01.BitsBetween", spec := "bitsBetween", inPlace := ["math.Float64bits", "math.Float64frombits", "math.Float32frombits", "math.Float32bits"], named := ["steelyard/bits.turns"], apart := false, laid := [("steelyard/bits.turns", laid_steelyard_bits_turns)], narrowed := true }
def BitsBetweenUptoSaid : Prop := bitsBetweenUptoRow.holds Tryd.pinned (OpenSpec.upto bitsBetweenSpec)

end Rows
end Go.Proofs.YtjkcgelemidapaaDoor
