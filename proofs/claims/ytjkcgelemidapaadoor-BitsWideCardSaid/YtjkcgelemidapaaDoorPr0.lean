-- written by this session's own program (wip/fprint.py), which widens the kit's print by floats
import Derived.Test.YtjkcgelemidapaaDoorProg
import Derived.Below
import Derived.Deep.Draws
import Derived.Deep.AppendLies
import Derived.Maps.AppendAt
import Derived.OwnWalk
import Derived.Laws.BytesArg
import Derived.Laws.MakeOwn
import Derived.Laws.OwnMore
import Derived.Deep.OwnRows
import Derived.Tactics
import Derived.Lib.ConvBytes
import Derived.Laws.Slices
import Derived.WalkKit
import Derived.KernelRfl
import Derived.RowKit3
import Derived.Deep.LoopGhost
import Derived.Deep.QuietTactic
import Derived.BigQuiet
import Derived.WideLaws
import Derived.Deep.DeepCutAuto
import Derived.Deep.CutBlock
import Derived.Deep.RegionHeld3
import Derived.Laws.Rows
import Derived.Lib.AppendStr
import Derived.ArgAppend
import Derived.Laws.IdiomCopy
import Derived.OrdersHeld
import Derived.Laws.BitsLemmas
import Derived.RowKit
import Derived.Test.YtjkcgelemidapaaDoorWWords
import Derived.Test.YtjkcgelemidapaaDoorWLast
import Derived.Test.YtjkcgelemidapaaDoorWTab
import Derived.Test.YtjkcgelemidapaaDoorWFour
import Derived.Test.YtjkcgelemidapaaDoorWQPut
import Derived.Test.YtjkcgelemidapaaDoorWApart
import Derived.Test.YtjkcgelemidapaaDoorWArr
import Derived.Test.YtjkcgelemidapaaDoorWZeros
import Derived.Test.YtjkcgelemidapaaDoorWFoot
import Derived.Test.YtjkcgelemidapaaDoorWKept
import Derived.Test.YtjkcgelemidapaaDoorWShare
import Derived.Test.YtjkcgelemidapaaDoorWN
import Derived.Test.YtjkcgelemidapaaDoorWFootNe
import Derived.Test.YtjkcgelemidapaaDoorWAt
import Derived.Test.YtjkcgelemidapaaDoorWEqStruct
import Derived.Test.YtjkcgelemidapaaDoorWRepsOne
import Derived.Test.YtjkcgelemidapaaDoorWInv
import Derived.Test.YtjkcgelemidapaaDoorWInvWords
import Derived.Test.YtjkcgelemidapaaDoorWGuard
import Derived.Test.YtjkcgelemidapaaDoorWNEv
import Derived.Test.YtjkcgelemidapaaDoorWMore
import Derived.Test.YtjkcgelemidapaaDoorWFloat
namespace Go.Proofs.YtjkcgelemidapaaDoor.Pr
open Go.RowKit Go.Proofs.YtjkcgelemidapaaDoorW.PrintWords Go.Proofs.YtjkcgelemidapaaDoorW.PrintLast Go.Proofs.YtjkcgelemidapaaDoorW.PrintMore
attribute [local go_sem] max2_int min2_int max_two min_two max_three min_three max_four min_four   -- for this text's walks alone
set_option linter.unusedVariables false
set_option linter.unusedSimpArgs false



def errW : Option Int → Value
  | none => .nilIface
  | some c => .iface 0 (.int .i64 c)
theorem errW_none : errW none = .nilIface := rfl
theorem errW_some (c : Int) : errW (some c) = .iface 0 (.int .i64 c) := rfl

theorem bits64 (x : Nat) (w : World) : (callFunc 15 #[.float .f64 x]).run Tryd.prog w = .ok (.value (.int .u64 (x : Int))) w := by
  rw [run_callFunc_extern (e := Extern.MathFloatBits.float64bits) Tryd.func15 (by kernel_rfl) (by kernel_rfl) (by kernel_rfl) (by kernel_rfl)]
  rfl
attribute [go_sem] bits64
theorem bits32 (x : Nat) (w : World) : (callFunc 26 #[.float .f32 x]).run Tryd.prog w = .ok (.value (.int .u32 (x : Int))) w := by
  rw [run_callFunc_extern (e := Extern.MathFloatBits.float32bits) Tryd.func26 (by kernel_rfl) (by kernel_rfl) (by kernel_rfl) (by kernel_rfl)]
  rfl
attribute [go_sem] bits32
theorem from64 (x : Int) (w : World) : (callFunc 46 #[.int .u64 x]).run Tryd.prog w = .ok (.value (.float .f64 x.toNat)) w := by
  rw [run_callFunc_extern (e := Extern.MathFloatBits.float64frombits) Tryd.func46 (by kernel_rfl) (by kernel_rfl) (by kernel_rfl) (by kernel_rfl)]
  rfl
attribute [go_sem] from64
theorem from32 (x : Int) (w : World) : (callFunc 55 #[.int .u32 x]).run Tryd.prog w = .ok (.value (.float .f32 x.toNat)) w := by
  rw [run_callFunc_extern (e := Extern.MathFloatBits.float32frombits) Tryd.func55 (by kernel_rfl) (by kernel_rfl) (by kernel_rfl) (by kernel_rfl)]
  rfl
attribute [go_sem] from32

/-- The listed variable reads as the program's text lays it. -/
def GlobLaid (w : World) : Prop := ∀ (i : Nat) (v : Int), ([0, 0, 1, 1, 2, 1, 1, 2, 0, 0] : List Int)[i]? = some v → w.cell? ⟨1, i, none⟩ = some (.int .i64 v)
theorem GlobLaid.below {w w1 : World} (h : GlobLaid w) (hb : Below w.heap.size w w1) : GlobLaid w1 := fun i v hv => (hb.cell (World.block_lt_of_cell? w _ (h i v hv))).trans (h i v hv)
def glob_0 (i : Int) : Int := if i = 1 then 1 else if i = 2 then 2 else if i = 3 then 1 else 0
def glob_1 (i : Int) : Int := if i = 1 then 1 else if i = 2 then 1 else if i = 3 then 2 else 0
theorem glob_cell_0 {w : World} (h : GlobLaid w) (i : Int) (h0 : 0 ≤ i) (h1 : i < 5) : w.cell? ⟨1, i.toNat * 2, none⟩ = some (.int .i64 (glob_0 i)) := by
  refine h _ _ ?_
  have : i = 0 ∨ i = 1 ∨ i = 2 ∨ i = 3 ∨ i = 4 := by omega
  rcases this with rfl | rfl | rfl | rfl | rfl <;> rfl
theorem glob_cell_1 {w : World} (h : GlobLaid w) (i : Int) (h0 : 0 ≤ i) (h1 : i < 5) : w.cell? ⟨1, i.toNat * 2 + 1, none⟩ = some (.int .i64 (glob_1 i)) := by
  refine h _ _ ?_
  have : i = 0 ∨ i = 1 ∨ i = 2 ∨ i = 3 ∨ i = 4 := by omega
  rcases this with rfl | rfl | rfl | rfl | rfl <;> rfl

theorem wlit0 : wrap64 (256) = 256 := by decide +kernel
attribute [go_sem] wlit0
theorem wlit1 : wrap64 (2048) = 2048 := by decide +kernel
attribute [go_sem] wlit1
theorem wlit2 : wrap64 (256 - 1) = 255 := by decide +kernel
attribute [go_sem] wlit2
theorem wlit3 : wrap64 (2048 - 1) = 2047 := by decide +kernel
attribute [go_sem] wlit3
theorem wlit4 : wrap64 (255) = 255 := by decide +kernel
attribute [go_sem] wlit4
theorem wlit5 : wrap64 (2047) = 2047 := by decide +kernel
attribute [go_sem] wlit5
-- the values' own types
/-! #### struct type 28 -/
structure S28 where
  f0 : Bool
  f1 : Int
  f2 : Int
  f3 : Int
def z28 : S28 := ⟨false, (0 : Int), (0 : Int), (0 : Int)⟩
def k28 : Kd S28 := Kd.iso (Kd.pair Kd.bool (Kd.pair (Kd.int .i64) (Kd.pair (Kd.int .i64) (Kd.int .u64)))) (fun x : S28 => (x.f0, x.f1, x.f2, x.f3))
theorem k28_open {w : World} {x : S28} {cs : List Value} (h : k28.K w x cs) : cs = [.bool x.f0, .int .i64 x.f1, .int .i64 x.f2, .int .u64 x.f3] := by
  obtain ⟨_, _, rfl, rfl, ⟨_, _, rfl, rfl, ⟨_, _, rfl, rfl, rfl⟩⟩⟩ := h
  exact rfl
theorem k28_openM {w : World} {base : Nat} {ok : Nat → Prop} {x : S28} {cs : List Value} (h : k28.M w base ok x cs) : cs = [.bool x.f0, .int .i64 x.f1, .int .i64 x.f2, .int .u64 x.f3] := by
  obtain ⟨_, _, rfl, rfl, ⟨_, _, rfl, rfl, ⟨_, _, rfl, rfl, rfl⟩⟩⟩ := h
  exact rfl
theorem k28_mk (w : World) (x : S28)  : k28.K w x [.bool x.f0, .int .i64 x.f1, .int .i64 x.f2, .int .u64 x.f3] := ⟨[.bool x.f0], [.int .i64 x.f1, .int .i64 x.f2, .int .u64 x.f3], rfl, rfl, ⟨[.int .i64 x.f1], [.int .i64 x.f2, .int .u64 x.f3], rfl, rfl, ⟨[.int .i64 x.f2], [.int .u64 x.f3], rfl, rfl, rfl⟩⟩⟩
theorem k28_mkM (w : World) (base : Nat) (ok : Nat → Prop) (x : S28)  : k28.M w base ok x [.bool x.f0, .int .i64 x.f1, .int .i64 x.f2, .int .u64 x.f3] := ⟨[.bool x.f0], [.int .i64 x.f1, .int .i64 x.f2, .int .u64 x.f3], rfl, rfl, ⟨[.int .i64 x.f1], [.int .i64 x.f2, .int .u64 x.f3], rfl, rfl, ⟨[.int .i64 x.f2], [.int .u64 x.f3], rfl, rfl, rfl⟩⟩⟩
def rd_T28 (xs : List S28) (i : Int) : S28 := xs.getD i.toNat z28
theorem at_T28 {w : World} {A : Option Addr} {n : Nat} {xs : List S28} (h : Kd.C k28 w A n xs) (i : Int) (h0 : 0 ≤ i) (h1 : i < n) : ∃ ad , A = some ad ∧ w.cell? (ad.add (i.toNat * 4)) = some (.bool (rd_T28 xs i).f0) ∧ w.cell? ⟨(ad.add (i.toNat * 4)).block, (ad.add (i.toNat * 4)).off + 1, none⟩ = some (.int .i64 (rd_T28 xs i).f1) ∧ w.cell? ⟨(ad.add (i.toNat * 4)).block, (ad.add (i.toNat * 4)).off + 2, none⟩ = some (.int .i64 (rd_T28 xs i).f2) ∧ w.cell? ⟨(ad.add (i.toNat * 4)).block, (ad.add (i.toNat * 4)).off + 3, none⟩ = some (.int .u64 (rd_T28 xs i).f3) := by
  obtain ⟨ad, c, e, _, hK, hc0⟩ := Kd.C_get h z28 i h0 h1
  have hc : ∀ j u, c[j]? = some u → w.cell? (ad.add (i.toNat * 4 + j)) = some u := hc0
  obtain rfl := k28_open hK
  exact ⟨ad, e, hc 0 _ rfl, by rw [← add_field _ _ 1 (by omega)]; exact hc 1 _ rfl, by rw [← add_field _ _ 2 (by omega)]; exact hc 2 _ rfl, by rw [← add_field _ _ 3 (by omega)]; exact hc 3 _ rfl⟩

end Go.Proofs.YtjkcgelemidapaaDoor.Pr
