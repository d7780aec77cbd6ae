/- The listed variable 'steelyard/bits.turns' as the rows' condition has it: the door's heap meets it; what it gives the walks (GlobLaid). -/
import Derived.Test.YtjkcgelemidapaaDoorRows
import Derived.Test.YtjkcgelemidapaaDoorPr0
import Derived.ProofKit
import Derived.LaidMore
import Derived.OpenShut
import Derived.Stop.Joined
namespace Go.Proofs.YtjkcgelemidapaaDoor.LaidHere
open Go.ChangeShapes Go.WideShapes Go.ChangeAt Go.WideElems Go.RowKit Go.Proofs.YtjkcgelemidapaaDoor.Pr
theorem gTurns : Tryd.prog.globalNamed "steelyard/bits.turns" = some 1 := by kernel_rfl
abbrev laidL {H : Type} : List (String × DataW H) := [("steelyard/bits.turns", Rows.laid_steelyard_bits_turns)]
theorem door_met (os : Os) (args : Array Value) : laidMetH Tryd.prog laidL ((World.doorLaid Tryd.prog 400 os).forCall (fun _ _ => 0) ⟨#[], args, []⟩).memory :=
  laidMetH_of_parts3 (fuel := 8) (laidMet_of_run' 8 (by kernel_rfl) (by kernel_rfl)) (by kernel_rfl) (by kernel_rfl)
theorem tTurns : (Tryd.prog.globals[1]?).map (·.type) = some 66 := by kernel_rfl
def rowsZ : List (Int × Int) := [(0, 0), (1, 1), (2, 1), (1, 2), (0, 0)]
theorem glob_laid {W : World} (h : laidMetH Tryd.prog laidL W) : GlobLaid W := by
  rw [MakeChecks.laidMetH_plain _ _ _ (by kernel_rfl)] at h
  obtain ⟨ps, ⟨g, t, cs, fuel, p, q, hg, ht, hv, hd, _, _⟩, _, _⟩ := h
  obtain rfl := Option.some.inj (gTurns.symm.trans hg)
  obtain rfl := Option.some.inj (tTurns.symm.trans ht)
  obtain ⟨xs, m, _, ex, hcl, hl, hel⟩ := DataW.trod_array Tryd.underlying66 hd
  have c65 : Tryd.prog.cellsOf 65 = 2 := by kernel_rfl
  have c66 : Tryd.prog.cellsOf 66 = 10 := by kernel_rfl
  have c3 : Tryd.prog.cellsOf 3 = 1 := by kernel_rfl
  rw [c66] at hcl
  have e3 : (xs.map (·.1)) = rowsZ.map fun n => .agg [.lit (.int .i64 n.1), .lit (.int .i64 n.2)] := (DataW.agg.inj (Prod.mk.inj ex).1).symm
  have key : ∀ r c : Nat, (hr : r < 5) → (hc : c < 2) → cs.toList[r * 2 + c]? = some (.int .i64 (if c = 0 then (rowsZ.getD r (0, 0)).1 else (rowsZ.getD r (0, 0)).2)) := by
    intro r c hr hc
    have hE := hel r hr
    rw [c65, List.getElem?_eq_getElem (by omega)] at hE
    obtain ⟨ys, m1, _, ey, _, hly, hely⟩ := DataW.trod_array Tryd.underlying65 hE
    have hF := hely c hc
    rw [c3, Nat.mul_one, List.getElem?_eq_getElem (by omega)] at hF
    obtain ⟨z, z1, z2, _⟩ := DataW.trod_int Tryd.underlying3 hF
    have e4 : (xs.map (·.1))[r]? = (rowsZ.map fun n => (DataW.agg [.lit (.int .i64 n.1), .lit (.int .i64 n.2)] : DataW Unit))[r]? := by rw [e3]
    rw [List.getElem?_map, List.getElem?_eq_getElem (by omega : r < xs.length), Option.map_some, ey, List.getElem?_map, List.getElem?_eq_getElem (show r < rowsZ.length from hr), Option.map_some] at e4
    have e5 := DataW.agg.inj (Option.some.inj e4)
    have hz : z = (if c = 0 then (rowsZ.getD r (0, 0)).1 else (rowsZ.getD r (0, 0)).2) := by
      have e6 : (ys.map (·.1))[c]? = some (.lit (.int .i64 z)) := by
        rw [List.getElem?_map, List.getElem?_eq_getElem (by omega : c < ys.length), Option.map_some, z2]
      rw [e5] at e6
      rw [List.getD, List.getElem?_eq_getElem (show r < rowsZ.length from hr)]
      have : c = 0 ∨ c = 1 := by omega
      rcases this with rfl | rfl <;> simp at e6 <;> simp [e6]
    rw [← hz]
    have h0 : (((cs.toList.drop (r * 2)).take 2 |>.drop c).take 1)[0]? = some (.int .i64 z) := by rw [z1]; rfl
    have h1 : c < 2 := hc
    simpa [List.getElem?_take, List.getElem?_drop, h1] using h0
  intro i v hi
  rw [World.var?_cell hg hv i]
  have hi10 : i < 10 := by
    have := List.getElem?_eq_some_iff.mp hi
    exact this.1
  have k := key (i / 2) (i % 2) (by omega) (by omega)
  have e : i / 2 * 2 + i % 2 = i := by omega
  rw [e] at k
  have : i = 0 ∨ i = 1 ∨ i = 2 ∨ i = 3 ∨ i = 4 ∨ i = 5 ∨ i = 6 ∨ i = 7 ∨ i = 8 ∨ i = 9 := by omega
  have k' : cs[i]? = some (.int .i64 v) := by
    rw [← Array.getElem?_toList, k]
    rcases this with rfl | rfl | rfl | rfl | rfl | rfl | rfl | rfl | rfl | rfl <;> simp [rowsZ] at hi ⊢ <;> exact hi
  exact k'
end Go.Proofs.YtjkcgelemidapaaDoor.LaidHere
