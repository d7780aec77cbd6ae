-- short
-- written by this session's own program (wip/fprint.py), which widens the kit's print by floats
import Derived.Test.YtdemanikmaafeaaProg
import Derived.Below
import Derived.Deep.Draws
import Derived.Deep.AppendLies
import Derived.Maps.AppendAt
import Derived.OwnWalk
import Derived.Laws.BytesArg
import Derived.Laws.MakeOwn
import Derived.Laws.OwnMore
import Derived.Deep.OwnRows
import Derived.Tactics
import Derived.Lib.ConvBytes
import Derived.Laws.Slices
import Derived.WalkKit
import Derived.KernelRfl
import Derived.RowKit3
import Derived.Deep.LoopGhost
import Derived.Deep.QuietTactic
import Derived.BigQuiet
import Derived.WideLaws
import Derived.Deep.DeepCutAuto
import Derived.Deep.CutBlock
import Derived.Deep.RegionHeld3
import Derived.Laws.Rows
import Derived.Lib.AppendStr
import Derived.ArgAppend
import Derived.Laws.IdiomCopy
import Derived.OrdersHeld
import Derived.Laws.BitsLemmas
import Derived.RowKit
import Derived.Test.YtdemanikmaafeaaWWords
import Derived.Test.YtdemanikmaafeaaWLast
import Derived.Test.YtdemanikmaafeaaWTab
import Derived.Test.YtdemanikmaafeaaWFour
import Derived.Test.YtdemanikmaafeaaWQPut
import Derived.Test.YtdemanikmaafeaaWApart
import Derived.Test.YtdemanikmaafeaaWArr
import Derived.Test.YtdemanikmaafeaaWZeros
import Derived.Test.YtdemanikmaafeaaWFoot
import Derived.Test.YtdemanikmaafeaaWKept
import Derived.Test.YtdemanikmaafeaaWShare
import Derived.Test.YtdemanikmaafeaaWN
import Derived.Test.YtdemanikmaafeaaWFootNe
import Derived.Test.YtdemanikmaafeaaWAt
import Derived.Test.YtdemanikmaafeaaWEqStruct
import Derived.Test.YtdemanikmaafeaaWRepsOne
import Derived.Test.YtdemanikmaafeaaWInv
import Derived.Test.YtdemanikmaafeaaWInvWords
import Derived.Test.YtdemanikmaafeaaWGuard
import Derived.Test.YtdemanikmaafeaaWNEv
import Derived.Test.YtdemanikmaafeaaWMore
import Derived.Test.YtdemanikmaafeaaWFloat
namespace Go.Proofs.Ytdemanikmaafeaa.Pr
open Go.RowKit Go.Proofs.YtdemanikmaafeaaW.PrintWords Go.Proofs.YtdemanikmaafeaaW.PrintLast Go.Proofs.YtdemanikmaafeaaW.PrintMore
attribute [local go_sem] max2_int min2_int max_two min_two max_three min_three max_four min_four   -- for this text's walks alone
set_option linter.unusedVariables false
set_option linter.unusedSimpArgs false



def errW : Option Int → Value
 | none => .nilIface
 | some c => .iface 0 (.int .i64 c)
theorem errW_none : errW none = .nilIface := rfl
theorem errW_some (c : Int) : errW (some c) = .iface 0 (.int .i64 c) := rfl

theorem from64 (x : Int) (w : World) : (callFunc 8 #[.int .u64 x]).run Try.prog w = .ok (.value (.float .f64 x.toNat)) w := by
 rw [run_callFunc_extern (e := Extern.MathFloatBits.float64frombits) Try.func8 (by kernel_rfl) (by kernel_rfl) (by kernel_rfl) (by kernel_rfl)]
 rfl
attribute [go_sem] from64
theorem bits64 (x : Nat) (w : World) : (callFunc 38 #[.float .f64 x]).run Try.prog w = .ok (.value (.int .u64 (x : Int))) w := by
 rw [run_callFunc_extern (e := Extern.MathFloatBits.float64bits) Try.func38 (by kernel_rfl) (by kernel_rfl) (by kernel_rfl) (by kernel_rfl)]
 rfl
attribute [go_sem] bits64
theorem info23 : (Try.prog.info? 23).map (fun i => (i.zero, i.size, i.bytes)) = some (some (.float .f64 0), 1, 8) := by kernel_rfl
theorem info72 : (Try.prog.info? 72).map (fun i => (i.zero, i.size, i.bytes)) = some (some (.int .u32 0), 1, 4) := by kernel_rfl
-- the values' own types
/-! #### struct type 30 -/
structure S30 where
 f0 : Nat
 f1 : Nat
def z30 : S30 := ⟨(0 : Nat), (0 : Nat)⟩
def k30 : Kd S30 := Kd.iso (Kd.pair (Kd.float .f64) (Kd.float .f64)) (fun x : S30 => (x.f0, x.f1))
theorem k30_heap : Kd.Heap k30 := Kd.heap_iso _ (Kd.heap_pair (Kd.heap_float .f64) (Kd.heap_float .f64))
theorem k30_open {w : World} {x : S30} {cs : List Value} (h : k30.K w x cs) : cs = [.float .f64 x.f0, .float .f64 x.f1] := by
 obtain ⟨_, _, rfl, rfl, rfl⟩ := h
 exact rfl
theorem k30_openM {w : World} {base : Nat} {ok : Nat → Prop} {x : S30} {cs : List Value} (h : k30.M w base ok x cs) : cs = [.float .f64 x.f0, .float .f64 x.f1] := by
 obtain ⟨_, _, rfl, rfl, rfl⟩ := h
 exact rfl
theorem k30_mk (w : World) (x : S30)  : k30.K w x [.float .f64 x.f0, .float .f64 x.f1] := ⟨[.float .f64 x.f0], [.float .f64 x.f1], rfl, rfl, rfl⟩
theorem k30_mkM (w : World) (base : Nat) (ok : Nat → Prop) (x : S30)  : k30.M w base ok x [.float .f64 x.f0, .float .f64 x.f1] := ⟨[.float .f64 x.f0], [.float .f64 x.f1], rfl, rfl, rfl⟩
theorem k30_mkF (W : World) (ok : Nat → Prop) (x : S30) : Kd.FK k30 W ok x [.float .f64 x.f0, .float .f64 x.f1] := fun W2 _ => k30_mk W2 x
def rd_T30 (xs : List S30) (i : Int) : S30 := xs.getD i.toNat z30
theorem at_T30 {w : World} {A : Option Addr} {n : Nat} {xs : List S30} (h : Kd.C k30 w A n xs) (i : Int) (h0 : 0 ≤ i) (h1 : i < n) : ∃ ad , A = some ad ∧ w.cell? (ad.add (i.toNat * 2)) = some (.float .f64 (rd_T30 xs i).f0) ∧ w.cell? ⟨(ad.add (i.toNat * 2)).block, (ad.add (i.toNat * 2)).off + 1, none⟩ = some (.float .f64 (rd_T30 xs i).f1) := by
 obtain ⟨ad, c, e, _, hK, hc0⟩ := Kd.C_get h z30 i h0 h1
 have hc : ∀ j u, c[j]? = some u → w.cell? (ad.add (i.toNat * 2 + j)) = some u := hc0
 obtain rfl := k30_open hK
 exact ⟨ad, e, hc 0 _ rfl, by rw [← add_field _ _ 1 (by omega)]; exact hc 1 _ rfl⟩

end Go.Proofs.Ytdemanikmaafeaa.Pr
