-- written by this session's own program (wip/fprint.py), which widens the kit's print by floats
import Derived.Test.YtjkcgelemidapaaDoorPr0
import Derived.Test.YtjkcgelemidapaaDoorPr2
import Derived.Test.YtjkcgelemidapaaDoorPr6
import Derived.Test.YtjkcgelemidapaaDoorPr9
import Derived.Test.YtjkcgelemidapaaDoorPr14
import Derived.Test.YtjkcgelemidapaaDoorPr22
namespace Go.Proofs.YtjkcgelemidapaaDoor.Pr
open Go.RowKit Go.Proofs.YtjkcgelemidapaaDoorW.PrintWords Go.Proofs.YtjkcgelemidapaaDoorW.PrintLast Go.Proofs.YtjkcgelemidapaaDoorW.PrintMore
attribute [local go_sem] max2_int min2_int max_two min_two max_three min_three max_four min_four   -- for this text's walks alone
set_option linter.unusedVariables false
set_option linter.unusedSimpArgs false

/-! ### steelyardlaw01_BitsBetween: function 13 -/
mutual
def steelyardlaw01_BitsBetween.j0 : Nat → Nat → Bool → Nat → Nat → Bool → Option (Bool)
  | 0, _, _, _, _, _ => none
  | k + 1, x0, x5, x6, x7, x58 => if x58 = true then (none) else ((math_IsInf.f x0 1).bind fun t358 => ((math_IsInf.f x0 (-1)).bind fun t359 => (if t358 = (!(FloatKind.f64.format.order x0 x6 == some .lt)) then (steelyardlaw01_BitsBetween.j1 k x0 x5 x6 x7 t358 t359 (t359 != (!(FloatKind.f64.format.order x7 x0 == some .lt)))) else (steelyardlaw01_BitsBetween.j1 k x0 x5 x6 x7 t358 t359 true))))
def steelyardlaw01_BitsBetween.j1 : Nat → Nat → Bool → Nat → Nat → Bool → Bool → Bool → Option (Bool)
  | 0, _, _, _, _, _, _, _ => none
  | k + 1, x0, x5, x6, x7, x8, x9, x76 => if x76 = true then (none) else (if (FloatKind.f64.format.order x0 0 == some .eq) = true then ((math_Signbit.f x0).bind fun t360 => (steelyardlaw01_BitsBetween.j2 k x0 x5 x6 x7 x8 x9 t360)) else (steelyardlaw01_BitsBetween.j2 k x0 x5 x6 x7 x8 x9 false))
def steelyardlaw01_BitsBetween.j2 : Nat → Nat → Bool → Nat → Nat → Bool → Bool → Bool → Option (Bool)
  | 0, _, _, _, _, _, _, _ => none
  | k + 1, x0, x5, x6, x7, x8, x9, x10 => if x8 = true then (if x9 = true then (steelyardlaw01_BitsBetween.j3 k x0 x5 x8 x9 false) else (if (FloatKind.f64.format.order x0 0 != some .eq) = true then ((bits_Next.f x7).bind fun t361 => ((steelyardlaw01_exact.f t361 x0).bind fun t362 => (steelyardlaw01_BitsBetween.j3 k x0 x5 x8 x9 (!t362)))) else (if x10 = true then ((bits_Next.f x7).bind fun t363 => ((steelyardlaw01_exact.f t363 x0).bind fun t364 => (steelyardlaw01_BitsBetween.j3 k x0 x5 x8 x9 (!t364)))) else (steelyardlaw01_BitsBetween.j3 k x0 x5 x8 x9 false)))) else (if x10 = true then (if x9 = true then (steelyardlaw01_BitsBetween.j3 k x0 x5 x8 x9 false) else (if (FloatKind.f64.format.order x0 0 != some .eq) = true then ((bits_Next.f x7).bind fun t365 => ((steelyardlaw01_exact.f t365 x0).bind fun t366 => (steelyardlaw01_BitsBetween.j3 k x0 x5 x8 x9 (!t366)))) else ((bits_Next.f x7).bind fun t367 => ((steelyardlaw01_exact.f t367 x0).bind fun t368 => (steelyardlaw01_BitsBetween.j3 k x0 x5 x8 x9 (!t368)))))) else ((bits_Prev.f x6).bind fun t369 => ((steelyardlaw01_exact.f t369 x0).bind fun t370 => (if t370 = true then (if x9 = true then (steelyardlaw01_BitsBetween.j3 k x0 x5 x8 x9 false) else (if (FloatKind.f64.format.order x0 0 != some .eq) = true then ((bits_Next.f x7).bind fun t371 => ((steelyardlaw01_exact.f t371 x0).bind fun t372 => (steelyardlaw01_BitsBetween.j3 k x0 x5 x8 x9 (!t372)))) else (steelyardlaw01_BitsBetween.j3 k x0 x5 x8 x9 false))) else (steelyardlaw01_BitsBetween.j3 k x0 x5 x8 x9 true)))))
def steelyardlaw01_BitsBetween.j3 : Nat → Nat → Bool → Bool → Bool → Bool → Option (Bool)
  | 0, _, _, _, _, _ => none
  | k + 1, x0, x5, x8, x9, x113 => if x113 = true then (none) else ((bits_Ulp.f x0).bind fun t373 => (if x8 = true then (steelyardlaw01_BitsBetween.j4 k x0 x5 t373 true) else (steelyardlaw01_BitsBetween.j4 k x0 x5 t373 x9)))
def steelyardlaw01_BitsBetween.j4 : Nat → Nat → Bool → Nat → Bool → Option (Bool)
  | 0, _, _, _, _ => none
  | k + 1, x0, x5, x11, x119 => if x119 = true then (if x5 = true then ((math_IsInf.f x11 1).bind fun t374 => (some t374)) else (none)) else ((math_Abs.f x0).bind fun t375 => ((bits_Next.f t375).bind fun t376 => (if (FloatKind.f64.format.sub t376 t375).isSome = true then (if x5 = true then (if (FloatKind.f64.format.order ((FloatKind.f64.format.sub t376 t375).getD 0) x11 == some .eq) = true then (some true) else ((math_IsInf.f ((FloatKind.f64.format.sub t376 t375).getD 0) 1).bind fun t377 => (if t377 = true then ((bits_Prev.f t375).bind fun t378 => (if (FloatKind.f64.format.sub t375 t378).isSome = true then (some (FloatKind.f64.format.order ((FloatKind.f64.format.sub t375 t378).getD 0) x11 == some .eq)) else (none))) else (none)))) else (none)) else (none))))
end
def steelyardlaw01_BitsBetween.f (k : Nat) (a0 : Nat) (a1 : Nat) : Option (Bool) := (steelyardlaw01_live.f k).bind fun t350 => ((bits_Next.f a0).bind fun t351 => ((bits_Prev.f a0).bind fun t352 => (if (FloatKind.f64.format.order a0 a0 != some .eq) = true then (if t350 = true then ((bits_NaN.f).bind fun t353 => ((steelyardlaw01_exact.f t351 t353).bind fun t354 => (if t354 = true then ((steelyardlaw01_exact.f t352 t353).bind fun t355 => (if t355 = true then ((bits_Ulp.f a0).bind fun t356 => ((steelyardlaw01_exact.f t356 t353).bind fun t357 => (some t357))) else (none))) else (none)))) else (none)) else (if (FloatKind.f64.format.order a0 a1 == some .lt) = true then (if ((FloatKind.f64.format.order t351 a1 == some .lt || FloatKind.f64.format.order t351 a1 == some .eq) = true) then (if (FloatKind.f64.format.order a1 a0 == some .lt) = true then (steelyardlaw01_BitsBetween.j0 k a0 t350 t351 t352 (!(FloatKind.f64.format.order a1 t352 == some .lt || FloatKind.f64.format.order a1 t352 == some .eq))) else (steelyardlaw01_BitsBetween.j0 k a0 t350 t351 t352 false)) else (steelyardlaw01_BitsBetween.j0 k a0 t350 t351 t352 true)) else (if (FloatKind.f64.format.order a1 a0 == some .lt) = true then (steelyardlaw01_BitsBetween.j0 k a0 t350 t351 t352 (!(FloatKind.f64.format.order a1 t352 == some .lt || FloatKind.f64.format.order a1 t352 == some .eq))) else (steelyardlaw01_BitsBetween.j0 k a0 t350 t351 t352 false))))))
theorem steelyardlaw01_BitsBetween.mono_l : ∀ k, (∀ y0 y1 y2 y3 y4, LeO (steelyardlaw01_BitsBetween.j0 k y0 y1 y2 y3 y4) (steelyardlaw01_BitsBetween.j0 (k + 1) y0 y1 y2 y3 y4)) ∧ (∀ y0 y1 y2 y3 y4 y5 y6, LeO (steelyardlaw01_BitsBetween.j1 k y0 y1 y2 y3 y4 y5 y6) (steelyardlaw01_BitsBetween.j1 (k + 1) y0 y1 y2 y3 y4 y5 y6)) ∧ (∀ y0 y1 y2 y3 y4 y5 y6, LeO (steelyardlaw01_BitsBetween.j2 k y0 y1 y2 y3 y4 y5 y6) (steelyardlaw01_BitsBetween.j2 (k + 1) y0 y1 y2 y3 y4 y5 y6)) ∧ (∀ y0 y1 y2 y3 y4, LeO (steelyardlaw01_BitsBetween.j3 k y0 y1 y2 y3 y4) (steelyardlaw01_BitsBetween.j3 (k + 1) y0 y1 y2 y3 y4)) ∧ (∀ y0 y1 y2 y3, LeO (steelyardlaw01_BitsBetween.j4 k y0 y1 y2 y3) (steelyardlaw01_BitsBetween.j4 (k + 1) y0 y1 y2 y3))
  | 0 => ⟨fun _ _ _ _ _ r h => by simp [steelyardlaw01_BitsBetween.j0] at h, fun _ _ _ _ _ _ _ r h => by simp [steelyardlaw01_BitsBetween.j1] at h, fun _ _ _ _ _ _ _ r h => by simp [steelyardlaw01_BitsBetween.j2] at h, fun _ _ _ _ _ r h => by simp [steelyardlaw01_BitsBetween.j3] at h, fun _ _ _ _ r h => by simp [steelyardlaw01_BitsBetween.j4] at h⟩
  | k + 1 => by
    obtain ⟨ih0, ih1, ih2, ih3, ih4⟩ := steelyardlaw01_BitsBetween.mono_l k
    refine ⟨?_, ?_, ?_, ?_, ?_⟩
    · intro y0 y1 y2 y3 y4
      unfold steelyardlaw01_BitsBetween.j0
      repeat' first
      | (with_reducible exact ih0 _ _ _ _ _)
      | (with_reducible exact ih1 _ _ _ _ _ _ _)
      | (with_reducible exact ih2 _ _ _ _ _ _ _)
      | (with_reducible exact ih3 _ _ _ _ _)
      | (with_reducible exact ih4 _ _ _ _)
      | (with_reducible exact steelyardlaw01_live.mono _)
      | (with_reducible exact LeO.refl _)
      | (with_reducible exact LeO.none _)
      | (with_reducible refine LeO.ite ?_ ?_)
      | (with_reducible refine LeO.bind ?_ (fun _ => ?_))
      | exact ih0 _ _ _ _ _
      | exact ih1 _ _ _ _ _ _ _
      | exact ih2 _ _ _ _ _ _ _
      | exact ih3 _ _ _ _ _
      | exact ih4 _ _ _ _
      | exact steelyardlaw01_live.mono _
      | exact LeO.none _
      | refine LeO.ite ?_ ?_
      | refine LeO.bind ?_ (fun _ => ?_)
    · intro y0 y1 y2 y3 y4 y5 y6
      unfold steelyardlaw01_BitsBetween.j1
      repeat' first
      | (with_reducible exact ih0 _ _ _ _ _)
      | (with_reducible exact ih1 _ _ _ _ _ _ _)
      | (with_reducible exact ih2 _ _ _ _ _ _ _)
      | (with_reducible exact ih3 _ _ _ _ _)
      | (with_reducible exact ih4 _ _ _ _)
      | (with_reducible exact steelyardlaw01_live.mono _)
      | (with_reducible exact LeO.refl _)
      | (with_reducible exact LeO.none _)
      | (with_reducible refine LeO.ite ?_ ?_)
      | (with_reducible refine LeO.bind ?_ (fun _ => ?_))
      | exact ih0 _ _ _ _ _
      | exact ih1 _ _ _ _ _ _ _
      | exact ih2 _ _ _ _ _ _ _
      | exact ih3 _ _ _ _ _
      | exact ih4 _ _ _ _
      | exact steelyardlaw01_live.mono _
      | exact LeO.none _
      | refine LeO.ite ?_ ?_
      | refine LeO.bind ?_ (fun _ => ?_)
    · intro y0 y1 y2 y3 y4 y5 y6
      unfold steelyardlaw01_BitsBetween.j2
      repeat' first
      | (with_reducible exact ih0 _ _ _ _ _)
      | (with_reducible exact ih1 _ _ _ _ _ _ _)
      | (with_reducible exact ih2 _ _ _ _ _ _ _)
      | (with_reducible exact ih3 _ _ _ _ _)
      | (with_reducible exact ih4 _ _ _ _)
      | (with_reducible exact steelyardlaw01_live.mono _)
      | (with_reducible exact LeO.refl _)
      | (with_reducible exact LeO.none _)
      | (with_reducible refine LeO.ite ?_ ?_)
      | (with_reducible refine LeO.bind ?_ (fun _ => ?_))
      | exact ih0 _ _ _ _ _
      | exact ih1 _ _ _ _ _ _ _
      | exact ih2 _ _ _ _ _ _ _
      | exact ih3 _ _ _ _ _
      | exact ih4 _ _ _ _
      | exact steelyardlaw01_live.mono _
      | exact LeO.none _
      | refine LeO.ite ?_ ?_
      | refine LeO.bind ?_ (fun _ => ?_)
    · intro y0 y1 y2 y3 y4
      unfold steelyardlaw01_BitsBetween.j3
      repeat' first
      | (with_reducible exact ih0 _ _ _ _ _)
      | (with_reducible exact ih1 _ _ _ _ _ _ _)
      | (with_reducible exact ih2 _ _ _ _ _ _ _)
      | (with_reducible exact ih3 _ _ _ _ _)
      | (with_reducible exact ih4 _ _ _ _)
      | (with_reducible exact steelyardlaw01_live.mono _)
      | (with_reducible exact LeO.refl _)
      | (with_reducible exact LeO.none _)
      | (with_reducible refine LeO.ite ?_ ?_)
      | (with_reducible refine LeO.bind ?_ (fun _ => ?_))
      | exact ih0 _ _ _ _ _
      | exact ih1 _ _ _ _ _ _ _
      | exact ih2 _ _ _ _ _ _ _
      | exact ih3 _ _ _ _ _
      | exact ih4 _ _ _ _
      | exact steelyardlaw01_live.mono _
      | exact LeO.none _
      | refine LeO.ite ?_ ?_
      | refine LeO.bind ?_ (fun _ => ?_)
    · intro y0 y1 y2 y3
      unfold steelyardlaw01_BitsBetween.j4
      repeat' first
      | (with_reducible exact ih0 _ _ _ _ _)
      | (with_reducible exact ih1 _ _ _ _ _ _ _)
      | (with_reducible exact ih2 _ _ _ _ _ _ _)
      | (with_reducible exact ih3 _ _ _ _ _)
      | (with_reducible exact ih4 _ _ _ _)
      | (with_reducible exact steelyardlaw01_live.mono _)
      | (with_reducible exact LeO.refl _)
      | (with_reducible exact LeO.none _)
      | (with_reducible refine LeO.ite ?_ ?_)
      | (with_reducible refine LeO.bind ?_ (fun _ => ?_))
      | exact ih0 _ _ _ _ _
      | exact ih1 _ _ _ _ _ _ _
      | exact ih2 _ _ _ _ _ _ _
      | exact ih3 _ _ _ _ _
      | exact ih4 _ _ _ _
      | exact steelyardlaw01_live.mono _
      | exact LeO.none _
      | refine LeO.ite ?_ ?_
      | refine LeO.bind ?_ (fun _ => ?_)
theorem steelyardlaw01_BitsBetween.mono : ∀ a0 a1 k, LeO (steelyardlaw01_BitsBetween.f k a0 a1) (steelyardlaw01_BitsBetween.f (k + 1) a0 a1) := by
  intro a0 a1 k
  obtain ⟨ih0, ih1, ih2, ih3, ih4⟩ := steelyardlaw01_BitsBetween.mono_l k
  unfold steelyardlaw01_BitsBetween.f
  repeat' first
      | (with_reducible exact ih0 _ _ _ _ _)
      | (with_reducible exact ih1 _ _ _ _ _ _ _)
      | (with_reducible exact ih2 _ _ _ _ _ _ _)
      | (with_reducible exact ih3 _ _ _ _ _)
      | (with_reducible exact ih4 _ _ _ _)
      | (with_reducible exact steelyardlaw01_live.mono _)
      | (with_reducible exact LeO.refl _)
      | (with_reducible exact LeO.none _)
      | (with_reducible refine LeO.ite ?_ ?_)
      | (with_reducible refine LeO.bind ?_ (fun _ => ?_))
      | exact ih0 _ _ _ _ _
      | exact ih1 _ _ _ _ _ _ _
      | exact ih2 _ _ _ _ _ _ _
      | exact ih3 _ _ _ _ _
      | exact ih4 _ _ _ _
      | exact steelyardlaw01_live.mono _
      | exact LeO.none _
      | refine LeO.ite ?_ ?_
      | refine LeO.bind ?_ (fun _ => ?_)
set_option maxHeartbeats 3000000 in
set_option maxRecDepth 100000 in
theorem steelyardlaw01_BitsBetween.calls (k : Nat) (a0 : Nat) (a1 : Nat) (r : Bool) (w : World) (hG : GlobLaid w) (h : steelyardlaw01_BitsBetween.f k a0 a1 = some r) :
    Calls Tryd.prog 13 #[.float .f64 a0, .float .f64 a1] w fun e w' => e = .returned (.bool r) ∧ Below w.heap.size w w' := by
  have HG := Aside0.mk hG
  clear hG
  have HB := Aside0.mk (Below.refl w.heap.size w)
  have H : ((steelyardlaw01_live.f k).bind fun t350 => ((bits_Next.f a0).bind fun t351 => ((bits_Prev.f a0).bind fun t352 => (if (FloatKind.f64.format.order a0 a0 != some .eq) = true then (if t350 = true then ((bits_NaN.f).bind fun t353 => ((steelyardlaw01_exact.f t351 t353).bind fun t354 => (if t354 = true then ((steelyardlaw01_exact.f t352 t353).bind fun t355 => (if t355 = true then ((bits_Ulp.f a0).bind fun t356 => ((steelyardlaw01_exact.f t356 t353).bind fun t357 => (some t357))) else (none))) else (none)))) else (none)) else (if (FloatKind.f64.format.order a0 a1 == some .lt) = true then (if ((FloatKind.f64.format.order t351 a1 == some .lt || FloatKind.f64.format.order t351 a1 == some .eq) = true) then (if (FloatKind.f64.format.order a1 a0 == some .lt) = true then (steelyardlaw01_BitsBetween.j0 k a0 t350 t351 t352 (!(FloatKind.f64.format.order a1 t352 == some .lt || FloatKind.f64.format.order a1 t352 == some .eq))) else (steelyardlaw01_BitsBetween.j0 k a0 t350 t351 t352 false)) else (steelyardlaw01_BitsBetween.j0 k a0 t350 t351 t352 true)) else (if (FloatKind.f64.format.order a1 a0 == some .lt) = true then (steelyardlaw01_BitsBetween.j0 k a0 t350 t351 t352 (!(FloatKind.f64.format.order a1 t352 == some .lt || FloatKind.f64.format.order a1 t352 == some .eq))) else (steelyardlaw01_BitsBetween.j0 k a0 t350 t351 t352 false))))))) = some r := h
  clear h
  replace H := Option.bind_eq_some_iff.mp H
  obtain ⟨t350, A30, H⟩ := H
  replace H : ((bits_Next.f a0).bind fun t351 => ((bits_Prev.f a0).bind fun t352 => (if (FloatKind.f64.format.order a0 a0 != some .eq) = true then (if t350 = true then ((bits_NaN.f).bind fun t353 => ((steelyardlaw01_exact.f t351 t353).bind fun t354 => (if t354 = true then ((steelyardlaw01_exact.f t352 t353).bind fun t355 => (if t355 = true then ((bits_Ulp.f a0).bind fun t356 => ((steelyardlaw01_exact.f t356 t353).bind fun t357 => (some t357))) else (none))) else (none)))) else (none)) else (if (FloatKind.f64.format.order a0 a1 == some .lt) = true then (if ((FloatKind.f64.format.order t351 a1 == some .lt || FloatKind.f64.format.order t351 a1 == some .eq) = true) then (if (FloatKind.f64.format.order a1 a0 == some .lt) = true then (steelyardlaw01_BitsBetween.j0 k a0 t350 t351 t352 (!(FloatKind.f64.format.order a1 t352 == some .lt || FloatKind.f64.format.order a1 t352 == some .eq))) else (steelyardlaw01_BitsBetween.j0 k a0 t350 t351 t352 false)) else (steelyardlaw01_BitsBetween.j0 k a0 t350 t351 t352 true)) else (if (FloatKind.f64.format.order a1 a0 == some .lt) = true then (steelyardlaw01_BitsBetween.j0 k a0 t350 t351 t352 (!(FloatKind.f64.format.order a1 t352 == some .lt || FloatKind.f64.format.order a1 t352 == some .eq))) else (steelyardlaw01_BitsBetween.j0 k a0 t350 t351 t352 false)))))) = some r := H
  have A3 := Aside0.mk A30
  clear A30
  replace H := Option.bind_eq_some_iff.mp H
  obtain ⟨t351, A40, H⟩ := H
  replace H : ((bits_Prev.f a0).bind fun t352 => (if (FloatKind.f64.format.order a0 a0 != some .eq) = true then (if t350 = true then ((bits_NaN.f).bind fun t353 => ((steelyardlaw01_exact.f t351 t353).bind fun t354 => (if t354 = true then ((steelyardlaw01_exact.f t352 t353).bind fun t355 => (if t355 = true then ((bits_Ulp.f a0).bind fun t356 => ((steelyardlaw01_exact.f t356 t353).bind fun t357 => (some t357))) else (none))) else (none)))) else (none)) else (if (FloatKind.f64.format.order a0 a1 == some .lt) = true then (if ((FloatKind.f64.format.order t351 a1 == some .lt || FloatKind.f64.format.order t351 a1 == some .eq) = true) then (if (FloatKind.f64.format.order a1 a0 == some .lt) = true then (steelyardlaw01_BitsBetween.j0 k a0 t350 t351 t352 (!(FloatKind.f64.format.order a1 t352 == some .lt || FloatKind.f64.format.order a1 t352 == some .eq))) else (steelyardlaw01_BitsBetween.j0 k a0 t350 t351 t352 false)) else (steelyardlaw01_BitsBetween.j0 k a0 t350 t351 t352 true)) else (if (FloatKind.f64.format.order a1 a0 == some .lt) = true then (steelyardlaw01_BitsBetween.j0 k a0 t350 t351 t352 (!(FloatKind.f64.format.order a1 t352 == some .lt || FloatKind.f64.format.order a1 t352 == some .eq))) else (steelyardlaw01_BitsBetween.j0 k a0 t350 t351 t352 false))))) = some r := H
  have A4 := Aside0.mk A40
  clear A40
  replace H := Option.bind_eq_some_iff.mp H
  obtain ⟨t352, A50, H⟩ := H
  replace H : (if (FloatKind.f64.format.order a0 a0 != some .eq) = true then (if t350 = true then ((bits_NaN.f).bind fun t353 => ((steelyardlaw01_exact.f t351 t353).bind fun t354 => (if t354 = true then ((steelyardlaw01_exact.f t352 t353).bind fun t355 => (if t355 = true then ((bits_Ulp.f a0).bind fun t356 => ((steelyardlaw01_exact.f t356 t353).bind fun t357 => (some t357))) else (none))) else (none)))) else (none)) else (if (FloatKind.f64.format.order a0 a1 == some .lt) = true then (if ((FloatKind.f64.format.order t351 a1 == some .lt || FloatKind.f64.format.order t351 a1 == some .eq) = true) then (if (FloatKind.f64.format.order a1 a0 == some .lt) = true then (steelyardlaw01_BitsBetween.j0 k a0 t350 t351 t352 (!(FloatKind.f64.format.order a1 t352 == some .lt || FloatKind.f64.format.order a1 t352 == some .eq))) else (steelyardlaw01_BitsBetween.j0 k a0 t350 t351 t352 false)) else (steelyardlaw01_BitsBetween.j0 k a0 t350 t351 t352 true)) else (if (FloatKind.f64.format.order a1 a0 == some .lt) = true then (steelyardlaw01_BitsBetween.j0 k a0 t350 t351 t352 (!(FloatKind.f64.format.order a1 t352 == some .lt || FloatKind.f64.format.order a1 t352 == some .eq))) else (steelyardlaw01_BitsBetween.j0 k a0 t350 t351 t352 false)))) = some r := H
  have A5 := Aside0.mk A50
  clear A50
  by_cases c6 : (FloatKind.f64.format.order a0 a0 != some .eq) = true
  · rw [if_pos c6] at H
    have c6b0 : (FloatKind.f64.format.order a0 a0 != some .eq) = true := c6
    clear c6
    by_cases c7 : t350 = true
    · subst c7
      have H1 : ((bits_NaN.f).bind fun t353 => ((steelyardlaw01_exact.f t351 t353).bind fun t354 => (if t354 = true then ((steelyardlaw01_exact.f t352 t353).bind fun t355 => (if t355 = true then ((bits_Ulp.f a0).bind fun t356 => ((steelyardlaw01_exact.f t356 t353).bind fun t357 => (some t357))) else (none))) else (none)))) = some r := by rw [if_pos rfl] at H; exact H
      clear H
      have H := H1
      clear H1
      replace H := Option.bind_eq_some_iff.mp H
      obtain ⟨t353, A80, H⟩ := H
      replace H : ((steelyardlaw01_exact.f t351 t353).bind fun t354 => (if t354 = true then ((steelyardlaw01_exact.f t352 t353).bind fun t355 => (if t355 = true then ((bits_Ulp.f a0).bind fun t356 => ((steelyardlaw01_exact.f t356 t353).bind fun t357 => (some t357))) else (none))) else (none))) = some r := H
      have A8 := Aside0.mk A80
      clear A80
      replace H := Option.bind_eq_some_iff.mp H
      obtain ⟨t354, A90, H⟩ := H
      replace H : (if t354 = true then ((steelyardlaw01_exact.f t352 t353).bind fun t355 => (if t355 = true then ((bits_Ulp.f a0).bind fun t356 => ((steelyardlaw01_exact.f t356 t353).bind fun t357 => (some t357))) else (none))) else (none)) = some r := H
      have A9 := Aside0.mk A90
      clear A90
      by_cases c10 : t354 = true
      · subst c10
        have H1 : ((steelyardlaw01_exact.f t352 t353).bind fun t355 => (if t355 = true then ((bits_Ulp.f a0).bind fun t356 => ((steelyardlaw01_exact.f t356 t353).bind fun t357 => (some t357))) else (none))) = some r := by rw [if_pos rfl] at H; exact H
        clear H
        have H := H1
        clear H1
        replace H := Option.bind_eq_some_iff.mp H
        obtain ⟨t355, A110, H⟩ := H
        replace H : (if t355 = true then ((bits_Ulp.f a0).bind fun t356 => ((steelyardlaw01_exact.f t356 t353).bind fun t357 => (some t357))) else (none)) = some r := H
        have A11 := Aside0.mk A110
        clear A110
        by_cases c12 : t355 = true
        · subst c12
          have H1 : ((bits_Ulp.f a0).bind fun t356 => ((steelyardlaw01_exact.f t356 t353).bind fun t357 => (some t357))) = some r := by rw [if_pos rfl] at H; exact H
          clear H
          have H := H1
          clear H1
          replace H := Option.bind_eq_some_iff.mp H
          obtain ⟨t356, A130, H⟩ := H
          replace H : ((steelyardlaw01_exact.f t356 t353).bind fun t357 => (some t357)) = some r := H
          have A13 := Aside0.mk A130
          clear A130
          replace H := Option.bind_eq_some_iff.mp H
          obtain ⟨t357, A140, H⟩ := H
          replace H : (some t357) = some r := H
          have A14 := Aside0.mk A140
          clear A140
          obtain rfl := Option.some.inj H
          go_enter Tryd.func13, Tryd.ntmps13
          go_wp2_with (first | ((with_reducible refine gate_callee (f := 14) rfl ?_); refine goesL_ (some 14) rfl rfl Tryd.func14 (by kernel_rfl) rfl #[] rfl (by (try simp only [List.map_toArray, List.map_cons, List.map_nil]); first | done | rfl | (simp only [List.length_drop, List.length_take]; rfl)) ?_; (with_reducible refine (steelyardlaw01_live.calls k  true _ ?side1 A3.out).mono ?_); (case side1 => exact GlobLaid.below HG.out (bl_ HB)); rintro e w15 ⟨rfl, hb⟩; refine ⟨_, rfl, ?_⟩; have n0_ := bs_ HB hb; clear HB; have HB := n0_; clear n0_; (try clear hb); (try clear hb2); (try clear hk); (try clear hi)) | ((with_reducible refine gate_callee (f := 38) rfl ?_); refine goesL_ (some 16) rfl rfl Tryd.func38 (by kernel_rfl) rfl #[.float .f64 a0] rfl (by (try simp only [List.map_toArray, List.map_cons, List.map_nil]); first | done | rfl | (simp only [List.length_drop, List.length_take]; rfl)) ?_; (with_reducible refine (bits_Next.calls a0 t351 _ A4.out).mono ?_); rintro e w' ⟨rfl, ⟨nd, rfl⟩⟩; refine ⟨_, rfl, ?_⟩) | ((with_reducible refine gate_callee (f := 40) rfl ?_); refine goesL_ (some 18) rfl rfl Tryd.func40 (by kernel_rfl) rfl #[.float .f64 a0] rfl (by (try simp only [List.map_toArray, List.map_cons, List.map_nil]); first | done | rfl | (simp only [List.length_drop, List.length_take]; rfl)) ?_; (with_reducible refine (bits_Prev.calls a0 t352 _ A5.out).mono ?_); rintro e w' ⟨rfl, ⟨nd, rfl⟩⟩; refine ⟨_, rfl, ?_⟩) | (go_at_call 16; (with_reducible refine (bits_NaN.calls  t353 _ A8.out).mono ?_); rintro e w' ⟨rfl, ⟨nd, rfl⟩⟩) | (go_at_call 19; (with_reducible refine (steelyardlaw01_exact.calls t351 t353 true _ A9.out).mono ?_); rintro e w' ⟨rfl, ⟨nd, rfl⟩⟩) | (go_at_call 19; (with_reducible refine (steelyardlaw01_exact.calls t352 t353 true _ A11.out).mono ?_); rintro e w' ⟨rfl, ⟨nd, rfl⟩⟩) | (go_at_call 42; (with_reducible refine (bits_Ulp.calls a0 t356 _ A13.out).mono ?_); rintro e w' ⟨rfl, ⟨nd, rfl⟩⟩) | (go_at_call 19; (with_reducible refine (steelyardlaw01_exact.calls t356 t353 t357 _ A14.out).mono ?_); rintro e w' ⟨rfl, ⟨nd, rfl⟩⟩))
          go_ret
          exact ⟨by first | rfl | (simp [errW_none, errW_some] <;> rfl) | (simp [*, errW_none, errW_some] <;> rfl), by repeat (first | (with_reducible first | exact HB.out | apply below_alloc | apply pw_below_drewN | apply below_drew1) | exact HB.out)⟩
        · replace c12 := Bool.eq_false_iff.mpr c12
          subst c12
          have H1 : (none) = some r := by rw [if_neg (show ¬ (false = true) by decide)] at H; exact H
          clear H
          have H := H1
          clear H1
          exact absurd H (by simp)
      · replace c10 := Bool.eq_false_iff.mpr c10
        subst c10
        have H1 : (none) = some r := by rw [if_neg (show ¬ (false = true) by decide)] at H; exact H
        clear H
        have H := H1
        clear H1
        exact absurd H (by simp)
    · replace c7 := Bool.eq_false_iff.mpr c7
      subst c7
      have H1 : (none) = some r := by rw [if_neg (show ¬ (false = true) by decide)] at H; exact H
      clear H
      have H := H1
      clear H1
      exact absurd H (by simp)
  · rw [if_neg c6] at H
    have c6b0 : (FloatKind.f64.format.order a0 a0 != some .eq) = false := by simpa using c6
    clear c6
    have HC16 := Aside0.mk H
    clear H
    go_enter Tryd.func13, Tryd.ntmps13
    go_upto_region 6 with (first | ((with_reducible refine gate_callee (f := 14) rfl ?_); refine goesL_ (some 14) rfl rfl Tryd.func14 (by kernel_rfl) rfl #[] rfl (by (try simp only [List.map_toArray, List.map_cons, List.map_nil]); first | done | rfl | (simp only [List.length_drop, List.length_take]; rfl)) ?_; (with_reducible refine (steelyardlaw01_live.calls k  t350 _ ?side1 A3.out).mono ?_); (case side1 => exact GlobLaid.below HG.out (bl_ HB)); rintro e w17 ⟨rfl, hb⟩; refine ⟨_, rfl, ?_⟩; have n0_ := bs_ HB hb; clear HB; have HB := n0_; clear n0_; (try clear hb); (try clear hb2); (try clear hk); (try clear hi)) | ((with_reducible refine gate_callee (f := 38) rfl ?_); refine goesL_ (some 16) rfl rfl Tryd.func38 (by kernel_rfl) rfl #[.float .f64 a0] rfl (by (try simp only [List.map_toArray, List.map_cons, List.map_nil]); first | done | rfl | (simp only [List.length_drop, List.length_take]; rfl)) ?_; (with_reducible refine (bits_Next.calls a0 t351 _ A4.out).mono ?_); rintro e w' ⟨rfl, ⟨nd, rfl⟩⟩; refine ⟨_, rfl, ?_⟩) | ((with_reducible refine gate_callee (f := 40) rfl ?_); refine goesL_ (some 18) rfl rfl Tryd.func40 (by kernel_rfl) rfl #[.float .f64 a0] rfl (by (try simp only [List.map_toArray, List.map_cons, List.map_nil]); first | done | rfl | (simp only [List.length_drop, List.length_take]; rfl)) ?_; (with_reducible refine (bits_Prev.calls a0 t352 _ A5.out).mono ?_); rintro e w' ⟨rfl, ⟨nd, rfl⟩⟩; refine ⟨_, rfl, ?_⟩))
    (try simp only [Act.put, List.setIfInBounds_toArray, List.set_cons_zero, List.set_cons_succ])
    go_cut [58] (fun v58 wc => ∃ (kq : Nat) (x58_15 : Bool), v58 = .bool x58_15 ∧ Aside0 (steelyardlaw01_BitsBetween.j0 kq a0 t350 t351 t352 x58_15 = some r) ∧ Aside0 (kq ≤ k) ∧ Aside0 (Below w.heap.size w wc))
    case first =>
      have H := HC16.out
      clear HC16
      by_cases c18 : (FloatKind.f64.format.order a0 a1 == some .lt) = true
      · rw [if_pos c18] at H
        have c18b0 : (FloatKind.f64.format.order a0 a1 == some .lt) = true := c18
        clear c18
        (first | rw [c18b0] | (simp only [i64_w, i32_w]; rw [c18b0]) | skip)
        by_cases c19 : ((FloatKind.f64.format.order t351 a1 == some .lt || FloatKind.f64.format.order t351 a1 == some .eq) = true)
        · rw [if_pos c19] at H
          have c19b0 : (FloatKind.f64.format.order t351 a1 == some .lt || FloatKind.f64.format.order t351 a1 == some .eq) = true := c19
          clear c19
          by_cases c20 : (FloatKind.f64.format.order a1 a0 == some .lt) = true
          · rw [if_pos c20] at H
            have c20b0 : (FloatKind.f64.format.order a1 a0 == some .lt) = true := c20
            clear c20
            have H' := Aside0.mk H
            clear H
            go_wp2
            go_meet
            case rel => exact ⟨_, (!(FloatKind.f64.format.order a1 t352 == some .lt || FloatKind.f64.format.order a1 t352 == some .eq)), (by first | rfl | (simp; done) | (simp [*]; done)), H', ⟨by first | omega | exact Nat.le_refl _⟩, ⟨by repeat (first | (with_reducible first | exact HB.out | apply below_alloc | apply pw_below_drewN | apply below_drew1) | exact HB.out)⟩⟩
          · rw [if_neg c20] at H
            have c20b0 : (FloatKind.f64.format.order a1 a0 == some .lt) = false := by simpa using c20
            clear c20
            have H' := Aside0.mk H
            clear H
            go_wp2
            go_meet
            case rel => exact ⟨_, (false), (by first | rfl | (simp; done) | (simp [*]; done)), H', ⟨by first | omega | exact Nat.le_refl _⟩, ⟨by repeat (first | (with_reducible first | exact HB.out | apply below_alloc | apply pw_below_drewN | apply below_drew1) | exact HB.out)⟩⟩
        · rw [if_neg c19] at H
          have c19b0 : (FloatKind.f64.format.order t351 a1 == some .lt || FloatKind.f64.format.order t351 a1 == some .eq) = false := by simpa using c19
          clear c19
          have H' := Aside0.mk H
          clear H
          go_wp2
          go_meet
          case rel => exact ⟨_, (true), (by first | rfl | (simp; done) | (simp [*]; done)), H', ⟨by first | omega | exact Nat.le_refl _⟩, ⟨by repeat (first | (with_reducible first | exact HB.out | apply below_alloc | apply pw_below_drewN | apply below_drew1) | exact HB.out)⟩⟩
      · rw [if_neg c18] at H
        have c18b0 : (FloatKind.f64.format.order a0 a1 == some .lt) = false := by simpa using c18
        clear c18
        (first | rw [c18b0] | (simp only [i64_w, i32_w]; rw [c18b0]) | skip)
        by_cases c21 : (FloatKind.f64.format.order a1 a0 == some .lt) = true
        · rw [if_pos c21] at H
          have c21b0 : (FloatKind.f64.format.order a1 a0 == some .lt) = true := c21
          clear c21
          have H' := Aside0.mk H
          clear H
          go_wp2
          go_meet
          case rel => exact ⟨_, (!(FloatKind.f64.format.order a1 t352 == some .lt || FloatKind.f64.format.order a1 t352 == some .eq)), (by first | rfl | (simp; done) | (simp [*]; done)), H', ⟨by first | omega | exact Nat.le_refl _⟩, ⟨by repeat (first | (with_reducible first | exact HB.out | apply below_alloc | apply pw_below_drewN | apply below_drew1) | exact HB.out)⟩⟩
        · rw [if_neg c21] at H
          have c21b0 : (FloatKind.f64.format.order a1 a0 == some .lt) = false := by simpa using c21
          clear c21
          have H' := Aside0.mk H
          clear H
          go_wp2
          go_meet
          case rel => exact ⟨_, (false), (by first | rfl | (simp; done) | (simp [*]; done)), H', ⟨by first | omega | exact Nat.le_refl _⟩, ⟨by repeat (first | (with_reducible first | exact HB.out | apply below_alloc | apply pw_below_drewN | apply below_drew1) | exact HB.out)⟩⟩
    case rest =>
      clear HC16
      try clear c1
      try clear c2
      try clear p2
      try clear c3
      try clear c4
      try clear c6
      try clear c6b0
      try clear c7
      try clear c10
      try clear c12
      try clear c13
      try clear c14
      try clear c18
      try clear c18b0
      try clear c19
      try clear c19b0
      try clear c20
      try clear c20b0
      try clear c21
      try clear c21b0
      obtain ⟨kq, x58_15, rfl, HA, HJ15, HB⟩ := hcut
      cases kq with
      | zero => exact absurd HA.out (by simp [steelyardlaw01_BitsBetween.j0])
      | succ kj15 =>
        have H := HA.out
        clear HA
        simp only [steelyardlaw01_BitsBetween.j0] at H
        by_cases c22 : x58_15 = true
        · subst c22
          have H1 : (none) = some r := by rw [if_pos rfl] at H; exact H
          clear H
          have H := H1
          clear H1
          exact absurd H (by simp)
        · replace c22 := Bool.eq_false_iff.mpr c22
          subst c22
          have H1 : ((math_IsInf.f a0 1).bind fun t358 => ((math_IsInf.f a0 (-1)).bind fun t359 => (if t358 = (!(FloatKind.f64.format.order a0 t351 == some .lt)) then (steelyardlaw01_BitsBetween.j1 kj15 a0 t350 t351 t352 t358 t359 (t359 != (!(FloatKind.f64.format.order t352 a0 == some .lt)))) else (steelyardlaw01_BitsBetween.j1 kj15 a0 t350 t351 t352 t358 t359 true)))) = some r := by rw [if_neg (show ¬ (false = true) by decide)] at H; exact H
          clear H
          have H := H1
          clear H1
          replace H := Option.bind_eq_some_iff.mp H
          obtain ⟨t358, A230, H⟩ := H
          replace H : ((math_IsInf.f a0 (-1)).bind fun t359 => (if t358 = (!(FloatKind.f64.format.order a0 t351 == some .lt)) then (steelyardlaw01_BitsBetween.j1 kj15 a0 t350 t351 t352 t358 t359 (t359 != (!(FloatKind.f64.format.order t352 a0 == some .lt)))) else (steelyardlaw01_BitsBetween.j1 kj15 a0 t350 t351 t352 t358 t359 true))) = some r := H
          have A23 := Aside0.mk A230
          clear A230
          replace H := Option.bind_eq_some_iff.mp H
          obtain ⟨t359, A240, H⟩ := H
          replace H : (if t358 = (!(FloatKind.f64.format.order a0 t351 == some .lt)) then (steelyardlaw01_BitsBetween.j1 kj15 a0 t350 t351 t352 t358 t359 (t359 != (!(FloatKind.f64.format.order t352 a0 == some .lt)))) else (steelyardlaw01_BitsBetween.j1 kj15 a0 t350 t351 t352 t358 t359 true)) = some r := H
          have A24 := Aside0.mk A240
          clear A240
          have HC25 := Aside0.mk H
          clear H
          go_upto_region 10 with (first | ((with_reducible refine gate_callee (f := 44) rfl ?_); refine goesL_ (some 60) rfl rfl Tryd.func44 (by kernel_rfl) rfl #[.float .f64 a0, .int .i64 1] rfl (by (try simp only [List.map_toArray, List.map_cons, List.map_nil]); first | done | rfl | (simp only [List.length_drop, List.length_take]; rfl)) ?_; (with_reducible refine (math_IsInf.calls a0 1 t358 _ A23.out).mono ?_); rintro e w' ⟨rfl, ⟨nd, rfl⟩⟩; refine ⟨_, rfl, ?_⟩) | ((with_reducible refine gate_callee (f := 44) rfl ?_); refine goesL_ (some 62) rfl rfl Tryd.func44 (by kernel_rfl) rfl #[.float .f64 a0, .int .i64 (-1)] rfl (by (try simp only [List.map_toArray, List.map_cons, List.map_nil]); first | done | rfl | (simp only [List.length_drop, List.length_take]; rfl)) ?_; (with_reducible refine (math_IsInf.calls a0 (-1) t359 _ A24.out).mono ?_); rintro e w' ⟨rfl, ⟨nd, rfl⟩⟩; refine ⟨_, rfl, ?_⟩))
          (try simp only [Act.put, List.setIfInBounds_toArray, List.set_cons_zero, List.set_cons_succ])
          go_cut [76] (fun v76 wc => ∃ (kq : Nat) (x76_24 : Bool), v76 = .bool x76_24 ∧ Aside0 (steelyardlaw01_BitsBetween.j1 kq a0 t350 t351 t352 t358 t359 x76_24 = some r) ∧ Aside0 (kq ≤ kj15) ∧ Aside0 (Below w.heap.size w wc))
          case first =>
            have H := HC25.out
            clear HC25
            by_cases c26 : t358 = (!(FloatKind.f64.format.order a0 t351 == some .lt))
            · rw [if_pos c26] at H
              have c26b0 : (t358 == (!(FloatKind.f64.format.order a0 t351 == some .lt))) = true := beq_iff_eq.mpr c26
              have c26b1 : (t358 != (!(FloatKind.f64.format.order a0 t351 == some .lt))) = false := bne_eq_false_iff_eq.mpr c26
              clear c26
              (first | rw [c26b0] | (simp only [i64_w, i32_w]; rw [c26b0]) | skip)
              have H' := Aside0.mk H
              clear H
              go_wp2
              go_meet
              case rel => exact ⟨_, ((t359 != (!(FloatKind.f64.format.order t352 a0 == some .lt)))), (by first | rfl | (simp; done) | (simp [*]; done)), H', ⟨by have := HJ15.out; first | omega | exact Nat.le_refl _⟩, ⟨by repeat (first | (with_reducible first | exact HB.out | apply below_alloc | apply pw_below_drewN | apply below_drew1) | exact HB.out)⟩⟩
            · rw [if_neg c26] at H
              have c26b0 : (t358 == (!(FloatKind.f64.format.order a0 t351 == some .lt))) = false := beq_eq_false_iff_ne.mpr c26
              have c26b1 : (t358 != (!(FloatKind.f64.format.order a0 t351 == some .lt))) = true := bne_iff_ne.mpr c26
              (first | rw [c26b0] | (simp only [i64_w, i32_w]; rw [c26b0]) | skip)
              have H' := Aside0.mk H
              clear H
              go_wp2
              go_meet
              case rel => exact ⟨_, (true), (by first | rfl | (simp; done) | (simp [*]; done)), H', ⟨by have := HJ15.out; first | omega | exact Nat.le_refl _⟩, ⟨by repeat (first | (with_reducible first | exact HB.out | apply below_alloc | apply pw_below_drewN | apply below_drew1) | exact HB.out)⟩⟩
          case rest =>
            clear HC25
            try clear c1
            try clear c2
            try clear p2
            try clear c3
            try clear c4
            try clear c6
            try clear c6b0
            try clear c7
            try clear c10
            try clear c12
            try clear c13
            try clear c14
            try clear c18
            try clear c18b0
            try clear c19
            try clear c19b0
            try clear c20
            try clear c20b0
            try clear c21
            try clear c21b0
            try clear c22
            try clear c26
            try clear c26b0
            try clear c26b1
            try clear p2
            obtain ⟨kq, x76_24, rfl, HA, HJ24, HB⟩ := hcut
            cases kq with
            | zero => exact absurd HA.out (by simp [steelyardlaw01_BitsBetween.j1])
            | succ kj24 =>
              have H := HA.out
              clear HA
              simp only [steelyardlaw01_BitsBetween.j1] at H
              by_cases c27 : x76_24 = true
              · subst c27
                have H1 : (none) = some r := by rw [if_pos rfl] at H; exact H
                clear H
                have H := H1
                clear H1
                exact absurd H (by simp)
              · replace c27 := Bool.eq_false_iff.mpr c27
                subst c27
                have H1 : (if (FloatKind.f64.format.order a0 0 == some .eq) = true then ((math_Signbit.f a0).bind fun t360 => (steelyardlaw01_BitsBetween.j2 kj24 a0 t350 t351 t352 t358 t359 t360)) else (steelyardlaw01_BitsBetween.j2 kj24 a0 t350 t351 t352 t358 t359 false)) = some r := by rw [if_neg (show ¬ (false = true) by decide)] at H; exact H
                clear H
                have H := H1
                clear H1
                have HC28 := Aside0.mk H
                clear H
                go_upto_region 12 with (fail)
                go_cut [10] (fun v10 wc => ∃ (kq : Nat) (x10_27 : Bool), v10 = .bool x10_27 ∧ Aside0 (steelyardlaw01_BitsBetween.j2 kq a0 t350 t351 t352 t358 t359 x10_27 = some r) ∧ Aside0 (kq ≤ kj24) ∧ Aside0 (Below w.heap.size w wc))
                case first =>
                  have H := HC28.out
                  clear HC28
                  by_cases c29 : (FloatKind.f64.format.order a0 0 == some .eq) = true
                  · rw [if_pos c29] at H
                    have c29b0 : (FloatKind.f64.format.order a0 0 == some .eq) = true := c29
                    clear c29
                    (first | rw [c29b0] | (simp only [i64_w, i32_w]; rw [c29b0]) | skip)
                    replace H := Option.bind_eq_some_iff.mp H
                    obtain ⟨t360, A300, H⟩ := H
                    replace H : (steelyardlaw01_BitsBetween.j2 kj24 a0 t350 t351 t352 t358 t359 t360) = some r := H
                    have A30 := Aside0.mk A300
                    clear A300
                    have H' := Aside0.mk H
                    clear H
                    go_wp2_with (first | (go_at_call 21; (with_reducible refine (math_Signbit.calls a0 t360 _ A30.out).mono ?_); rintro e w' ⟨rfl, ⟨nd, rfl⟩⟩))
                    go_meet
                    case rel => exact ⟨_, (t360), (by first | rfl | (simp; done) | (simp [*]; done)), H', ⟨by have := HJ15.out; have := HJ24.out; first | omega | exact Nat.le_refl _⟩, ⟨by repeat (first | (with_reducible first | exact HB.out | apply below_alloc | apply pw_below_drewN | apply below_drew1) | exact HB.out)⟩⟩
                  · rw [if_neg c29] at H
                    have c29b0 : (FloatKind.f64.format.order a0 0 == some .eq) = false := by simpa using c29
                    clear c29
                    (first | rw [c29b0] | (simp only [i64_w, i32_w]; rw [c29b0]) | skip)
                    have H' := Aside0.mk H
                    clear H
                    go_wp2
                    go_meet
                    case rel => exact ⟨_, (false), (by first | rfl | (simp; done) | (simp [*]; done)), H', ⟨by have := HJ15.out; have := HJ24.out; first | omega | exact Nat.le_refl _⟩, ⟨by repeat (first | (with_reducible first | exact HB.out | apply below_alloc | apply pw_below_drewN | apply below_drew1) | exact HB.out)⟩⟩
                case rest =>
                  clear HC28
                  try clear c1
                  try clear c2
                  try clear p2
                  try clear c3
                  try clear c4
                  try clear c6
                  try clear c6b0
                  try clear c7
                  try clear c10
                  try clear c12
                  try clear c13
                  try clear c14
                  try clear c18
                  try clear c18b0
                  try clear c19
                  try clear c19b0
                  try clear c20
                  try clear c20b0
                  try clear c21
                  try clear c21b0
                  try clear c22
                  try clear c26
                  try clear c26b0
                  try clear c26b1
                  try clear c27
                  try clear c29
                  try clear c29b0
                  try clear p2
                  obtain ⟨kq, x10_27, rfl, HA, HJ27, HB⟩ := hcut
                  cases kq with
                  | zero => exact absurd HA.out (by simp [steelyardlaw01_BitsBetween.j2])
                  | succ kj27 =>
                    have H := HA.out
                    clear HA
                    simp only [steelyardlaw01_BitsBetween.j2] at H
                    have HC31 := Aside0.mk H
                    clear H
                    go_upto_region 13 with (fail)
                    go_cut [113] (fun v113 wc => ∃ (kq : Nat) (x113_30 : Bool), v113 = .bool x113_30 ∧ Aside0 (steelyardlaw01_BitsBetween.j3 kq a0 t350 t358 t359 x113_30 = some r) ∧ Aside0 (kq ≤ kj27) ∧ Aside0 (Below w.heap.size w wc))
                    case first =>
                      have H := HC31.out
                      clear HC31
                      by_cases c32 : t358 = true
                      · subst c32
                        have H1 : (if t359 = true then (steelyardlaw01_BitsBetween.j3 kj27 a0 t350 true t359 false) else (if (FloatKind.f64.format.order a0 0 != some .eq) = true then ((bits_Next.f t352).bind fun t361 => ((steelyardlaw01_exact.f t361 a0).bind fun t362 => (steelyardlaw01_BitsBetween.j3 kj27 a0 t350 true t359 (!t362)))) else (if x10_27 = true then ((bits_Next.f t352).bind fun t363 => ((steelyardlaw01_exact.f t363 a0).bind fun t364 => (steelyardlaw01_BitsBetween.j3 kj27 a0 t350 true t359 (!t364)))) else (steelyardlaw01_BitsBetween.j3 kj27 a0 t350 true t359 false)))) = some r := by rw [if_pos rfl] at H; exact H
                        clear H
                        have H := H1
                        clear H1
                        by_cases c33 : t359 = true
                        · subst c33
                          have H1 : (steelyardlaw01_BitsBetween.j3 kj27 a0 t350 true true false) = some r := by rw [if_pos rfl] at H; exact H
                          clear H
                          have H := H1
                          clear H1
                          have H' := Aside0.mk H
                          clear H
                          go_wp2
                          go_meet
                          case rel => exact ⟨_, (false), (by first | rfl | (simp; done) | (simp [*]; done)), H', ⟨by have := HJ15.out; have := HJ24.out; have := HJ27.out; first | omega | exact Nat.le_refl _⟩, ⟨by repeat (first | (with_reducible first | exact HB.out | apply below_alloc | apply pw_below_drewN | apply below_drew1) | exact HB.out)⟩⟩
                        · replace c33 := Bool.eq_false_iff.mpr c33
                          subst c33
                          have H1 : (if (FloatKind.f64.format.order a0 0 != some .eq) = true then ((bits_Next.f t352).bind fun t361 => ((steelyardlaw01_exact.f t361 a0).bind fun t362 => (steelyardlaw01_BitsBetween.j3 kj27 a0 t350 true false (!t362)))) else (if x10_27 = true then ((bits_Next.f t352).bind fun t363 => ((steelyardlaw01_exact.f t363 a0).bind fun t364 => (steelyardlaw01_BitsBetween.j3 kj27 a0 t350 true false (!t364)))) else (steelyardlaw01_BitsBetween.j3 kj27 a0 t350 true false false))) = some r := by rw [if_neg (show ¬ (false = true) by decide)] at H; exact H
                          clear H
                          have H := H1
                          clear H1
                          by_cases c34 : (FloatKind.f64.format.order a0 0 != some .eq) = true
                          · rw [if_pos c34] at H
                            have c34b0 : (FloatKind.f64.format.order a0 0 != some .eq) = true := c34
                            clear c34
                            (first | rw [c34b0] | (simp only [i64_w, i32_w]; rw [c34b0]) | skip)
                            replace H := Option.bind_eq_some_iff.mp H
                            obtain ⟨t361, A350, H⟩ := H
                            replace H : ((steelyardlaw01_exact.f t361 a0).bind fun t362 => (steelyardlaw01_BitsBetween.j3 kj27 a0 t350 true false (!t362))) = some r := H
                            have A35 := Aside0.mk A350
                            clear A350
                            replace H := Option.bind_eq_some_iff.mp H
                            obtain ⟨t362, A360, H⟩ := H
                            replace H : (steelyardlaw01_BitsBetween.j3 kj27 a0 t350 true false (!t362)) = some r := H
                            have A36 := Aside0.mk A360
                            clear A360
                            have H' := Aside0.mk H
                            clear H
                            go_wp2_with (first | (go_at_call 38; (with_reducible refine (bits_Next.calls t352 t361 _ A35.out).mono ?_); rintro e w' ⟨rfl, ⟨nd, rfl⟩⟩) | (go_at_call 19; (with_reducible refine (steelyardlaw01_exact.calls t361 a0 t362 _ A36.out).mono ?_); rintro e w' ⟨rfl, ⟨nd, rfl⟩⟩))
                            go_meet
                            case rel => exact ⟨_, (!t362), (by first | rfl | (simp; done) | (simp [*]; done)), H', ⟨by have := HJ15.out; have := HJ24.out; have := HJ27.out; first | omega | exact Nat.le_refl _⟩, ⟨by repeat (first | (with_reducible first | exact HB.out | apply below_alloc | apply pw_below_drewN | apply below_drew1) | exact HB.out)⟩⟩
                          · rw [if_neg c34] at H
                            have c34b0 : (FloatKind.f64.format.order a0 0 != some .eq) = false := by simpa using c34
                            clear c34
                            (first | rw [c34b0] | (simp only [i64_w, i32_w]; rw [c34b0]) | skip)
                            by_cases c37 : x10_27 = true
                            · subst c37
                              have H1 : ((bits_Next.f t352).bind fun t363 => ((steelyardlaw01_exact.f t363 a0).bind fun t364 => (steelyardlaw01_BitsBetween.j3 kj27 a0 t350 true false (!t364)))) = some r := by rw [if_pos rfl] at H; exact H
                              clear H
                              have H := H1
                              clear H1
                              replace H := Option.bind_eq_some_iff.mp H
                              obtain ⟨t363, A380, H⟩ := H
                              replace H : ((steelyardlaw01_exact.f t363 a0).bind fun t364 => (steelyardlaw01_BitsBetween.j3 kj27 a0 t350 true false (!t364))) = some r := H
                              have A38 := Aside0.mk A380
                              clear A380
                              replace H := Option.bind_eq_some_iff.mp H
                              obtain ⟨t364, A390, H⟩ := H
                              replace H : (steelyardlaw01_BitsBetween.j3 kj27 a0 t350 true false (!t364)) = some r := H
                              have A39 := Aside0.mk A390
                              clear A390
                              have H' := Aside0.mk H
                              clear H
                              go_wp2_with (first | (go_at_call 38; (with_reducible refine (bits_Next.calls t352 t363 _ A38.out).mono ?_); rintro e w' ⟨rfl, ⟨nd, rfl⟩⟩) | (go_at_call 19; (with_reducible refine (steelyardlaw01_exact.calls t363 a0 t364 _ A39.out).mono ?_); rintro e w' ⟨rfl, ⟨nd, rfl⟩⟩))
                              go_meet
                              case rel => exact ⟨_, (!t364), (by first | rfl | (simp; done) | (simp [*]; done)), H', ⟨by have := HJ15.out; have := HJ24.out; have := HJ27.out; first | omega | exact Nat.le_refl _⟩, ⟨by repeat (first | (with_reducible first | exact HB.out | apply below_alloc | apply pw_below_drewN | apply below_drew1) | exact HB.out)⟩⟩
                            · replace c37 := Bool.eq_false_iff.mpr c37
                              subst c37
                              have H1 : (steelyardlaw01_BitsBetween.j3 kj27 a0 t350 true false false) = some r := by rw [if_neg (show ¬ (false = true) by decide)] at H; exact H
                              clear H
                              have H := H1
                              clear H1
                              have H' := Aside0.mk H
                              clear H
                              go_wp2
                              go_meet
                              case rel => exact ⟨_, (false), (by first | rfl | (simp; done) | (simp [*]; done)), H', ⟨by have := HJ15.out; have := HJ24.out; have := HJ27.out; first | omega | exact Nat.le_refl _⟩, ⟨by repeat (first | (with_reducible first | exact HB.out | apply below_alloc | apply pw_below_drewN | apply below_drew1) | exact HB.out)⟩⟩
                      · replace c32 := Bool.eq_false_iff.mpr c32
                        subst c32
                        have H1 : (if x10_27 = true then (if t359 = true then (steelyardlaw01_BitsBetween.j3 kj27 a0 t350 false t359 false) else (if (FloatKind.f64.format.order a0 0 != some .eq) = true then ((bits_Next.f t352).bind fun t365 => ((steelyardlaw01_exact.f t365 a0).bind fun t366 => (steelyardlaw01_BitsBetween.j3 kj27 a0 t350 false t359 (!t366)))) else ((bits_Next.f t352).bind fun t367 => ((steelyardlaw01_exact.f t367 a0).bind fun t368 => (steelyardlaw01_BitsBetween.j3 kj27 a0 t350 false t359 (!t368)))))) else ((bits_Prev.f t351).bind fun t369 => ((steelyardlaw01_exact.f t369 a0).bind fun t370 => (if t370 = true then (if t359 = true then (steelyardlaw01_BitsBetween.j3 kj27 a0 t350 false t359 false) else (if (FloatKind.f64.format.order a0 0 != some .eq) = true then ((bits_Next.f t352).bind fun t371 => ((steelyardlaw01_exact.f t371 a0).bind fun t372 => (steelyardlaw01_BitsBetween.j3 kj27 a0 t350 false t359 (!t372)))) else (steelyardlaw01_BitsBetween.j3 kj27 a0 t350 false t359 false))) else (steelyardlaw01_BitsBetween.j3 kj27 a0 t350 false t359 true))))) = some r := by rw [if_neg (show ¬ (false = true) by decide)] at H; exact H
                        clear H
                        have H := H1
                        clear H1
                        by_cases c40 : x10_27 = true
                        · subst c40
                          have H1 : (if t359 = true then (steelyardlaw01_BitsBetween.j3 kj27 a0 t350 false t359 false) else (if (FloatKind.f64.format.order a0 0 != some .eq) = true then ((bits_Next.f t352).bind fun t365 => ((steelyardlaw01_exact.f t365 a0).bind fun t366 => (steelyardlaw01_BitsBetween.j3 kj27 a0 t350 false t359 (!t366)))) else ((bits_Next.f t352).bind fun t367 => ((steelyardlaw01_exact.f t367 a0).bind fun t368 => (steelyardlaw01_BitsBetween.j3 kj27 a0 t350 false t359 (!t368)))))) = some r := by rw [if_pos rfl] at H; exact H
                          clear H
                          have H := H1
                          clear H1
                          by_cases c41 : t359 = true
                          · subst c41
                            have H1 : (steelyardlaw01_BitsBetween.j3 kj27 a0 t350 false true false) = some r := by rw [if_pos rfl] at H; exact H
                            clear H
                            have H := H1
                            clear H1
                            have H' := Aside0.mk H
                            clear H
                            go_wp2
                            go_meet
                            case rel => exact ⟨_, (false), (by first | rfl | (simp; done) | (simp [*]; done)), H', ⟨by have := HJ15.out; have := HJ24.out; have := HJ27.out; first | omega | exact Nat.le_refl _⟩, ⟨by repeat (first | (with_reducible first | exact HB.out | apply below_alloc | apply pw_below_drewN | apply below_drew1) | exact HB.out)⟩⟩
                          · replace c41 := Bool.eq_false_iff.mpr c41
                            subst c41
                            have H1 : (if (FloatKind.f64.format.order a0 0 != some .eq) = true then ((bits_Next.f t352).bind fun t365 => ((steelyardlaw01_exact.f t365 a0).bind fun t366 => (steelyardlaw01_BitsBetween.j3 kj27 a0 t350 false false (!t366)))) else ((bits_Next.f t352).bind fun t367 => ((steelyardlaw01_exact.f t367 a0).bind fun t368 => (steelyardlaw01_BitsBetween.j3 kj27 a0 t350 false false (!t368))))) = some r := by rw [if_neg (show ¬ (false = true) by decide)] at H; exact H
                            clear H
                            have H := H1
                            clear H1
                            by_cases c42 : (FloatKind.f64.format.order a0 0 != some .eq) = true
                            · rw [if_pos c42] at H
                              have c42b0 : (FloatKind.f64.format.order a0 0 != some .eq) = true := c42
                              clear c42
                              replace H := Option.bind_eq_some_iff.mp H
                              obtain ⟨t365, A430, H⟩ := H
                              replace H : ((steelyardlaw01_exact.f t365 a0).bind fun t366 => (steelyardlaw01_BitsBetween.j3 kj27 a0 t350 false false (!t366))) = some r := H
                              have A43 := Aside0.mk A430
                              clear A430
                              replace H := Option.bind_eq_some_iff.mp H
                              obtain ⟨t366, A440, H⟩ := H
                              replace H : (steelyardlaw01_BitsBetween.j3 kj27 a0 t350 false false (!t366)) = some r := H
                              have A44 := Aside0.mk A440
                              clear A440
                              have H' := Aside0.mk H
                              clear H
                              go_wp2_with (first | (go_at_call 38; (with_reducible refine (bits_Next.calls t352 t365 _ A43.out).mono ?_); rintro e w' ⟨rfl, ⟨nd, rfl⟩⟩) | (go_at_call 19; (with_reducible refine (steelyardlaw01_exact.calls t365 a0 t366 _ A44.out).mono ?_); rintro e w' ⟨rfl, ⟨nd, rfl⟩⟩))
                              go_meet
                              case rel => exact ⟨_, (!t366), (by first | rfl | (simp; done) | (simp [*]; done)), H', ⟨by have := HJ15.out; have := HJ24.out; have := HJ27.out; first | omega | exact Nat.le_refl _⟩, ⟨by repeat (first | (with_reducible first | exact HB.out | apply below_alloc | apply pw_below_drewN | apply below_drew1) | exact HB.out)⟩⟩
                            · rw [if_neg c42] at H
                              have c42b0 : (FloatKind.f64.format.order a0 0 != some .eq) = false := by simpa using c42
                              clear c42
                              replace H := Option.bind_eq_some_iff.mp H
                              obtain ⟨t367, A450, H⟩ := H
                              replace H : ((steelyardlaw01_exact.f t367 a0).bind fun t368 => (steelyardlaw01_BitsBetween.j3 kj27 a0 t350 false false (!t368))) = some r := H
                              have A45 := Aside0.mk A450
                              clear A450
                              replace H := Option.bind_eq_some_iff.mp H
                              obtain ⟨t368, A460, H⟩ := H
                              replace H : (steelyardlaw01_BitsBetween.j3 kj27 a0 t350 false false (!t368)) = some r := H
                              have A46 := Aside0.mk A460
                              clear A460
                              have H' := Aside0.mk H
                              clear H
                              go_wp2_with (first | (go_at_call 38; (with_reducible refine (bits_Next.calls t352 t367 _ A45.out).mono ?_); rintro e w' ⟨rfl, ⟨nd, rfl⟩⟩) | (go_at_call 19; (with_reducible refine (steelyardlaw01_exact.calls t367 a0 t368 _ A46.out).mono ?_); rintro e w' ⟨rfl, ⟨nd, rfl⟩⟩))
                              go_meet
                              case rel => exact ⟨_, (!t368), (by first | rfl | (simp; done) | (simp [*]; done)), H', ⟨by have := HJ15.out; have := HJ24.out; have := HJ27.out; first | omega | exact Nat.le_refl _⟩, ⟨by repeat (first | (with_reducible first | exact HB.out | apply below_alloc | apply pw_below_drewN | apply below_drew1) | exact HB.out)⟩⟩
                        · replace c40 := Bool.eq_false_iff.mpr c40
                          subst c40
                          have H1 : ((bits_Prev.f t351).bind fun t369 => ((steelyardlaw01_exact.f t369 a0).bind fun t370 => (if t370 = true then (if t359 = true then (steelyardlaw01_BitsBetween.j3 kj27 a0 t350 false t359 false) else (if (FloatKind.f64.format.order a0 0 != some .eq) = true then ((bits_Next.f t352).bind fun t371 => ((steelyardlaw01_exact.f t371 a0).bind fun t372 => (steelyardlaw01_BitsBetween.j3 kj27 a0 t350 false t359 (!t372)))) else (steelyardlaw01_BitsBetween.j3 kj27 a0 t350 false t359 false))) else (steelyardlaw01_BitsBetween.j3 kj27 a0 t350 false t359 true)))) = some r := by rw [if_neg (show ¬ (false = true) by decide)] at H; exact H
                          clear H
                          have H := H1
                          clear H1
                          replace H := Option.bind_eq_some_iff.mp H
                          obtain ⟨t369, A470, H⟩ := H
                          replace H : ((steelyardlaw01_exact.f t369 a0).bind fun t370 => (if t370 = true then (if t359 = true then (steelyardlaw01_BitsBetween.j3 kj27 a0 t350 false t359 false) else (if (FloatKind.f64.format.order a0 0 != some .eq) = true then ((bits_Next.f t352).bind fun t371 => ((steelyardlaw01_exact.f t371 a0).bind fun t372 => (steelyardlaw01_BitsBetween.j3 kj27 a0 t350 false t359 (!t372)))) else (steelyardlaw01_BitsBetween.j3 kj27 a0 t350 false t359 false))) else (steelyardlaw01_BitsBetween.j3 kj27 a0 t350 false t359 true))) = some r := H
                          have A47 := Aside0.mk A470
                          clear A470
                          replace H := Option.bind_eq_some_iff.mp H
                          obtain ⟨t370, A480, H⟩ := H
                          replace H : (if t370 = true then (if t359 = true then (steelyardlaw01_BitsBetween.j3 kj27 a0 t350 false t359 false) else (if (FloatKind.f64.format.order a0 0 != some .eq) = true then ((bits_Next.f t352).bind fun t371 => ((steelyardlaw01_exact.f t371 a0).bind fun t372 => (steelyardlaw01_BitsBetween.j3 kj27 a0 t350 false t359 (!t372)))) else (steelyardlaw01_BitsBetween.j3 kj27 a0 t350 false t359 false))) else (steelyardlaw01_BitsBetween.j3 kj27 a0 t350 false t359 true)) = some r := H
                          have A48 := Aside0.mk A480
                          clear A480
                          by_cases c49 : t370 = true
                          · subst c49
                            have H1 : (if t359 = true then (steelyardlaw01_BitsBetween.j3 kj27 a0 t350 false t359 false) else (if (FloatKind.f64.format.order a0 0 != some .eq) = true then ((bits_Next.f t352).bind fun t371 => ((steelyardlaw01_exact.f t371 a0).bind fun t372 => (steelyardlaw01_BitsBetween.j3 kj27 a0 t350 false t359 (!t372)))) else (steelyardlaw01_BitsBetween.j3 kj27 a0 t350 false t359 false))) = some r := by rw [if_pos rfl] at H; exact H
                            clear H
                            have H := H1
                            clear H1
                            by_cases c50 : t359 = true
                            · subst c50
                              have H1 : (steelyardlaw01_BitsBetween.j3 kj27 a0 t350 false true false) = some r := by rw [if_pos rfl] at H; exact H
                              clear H
                              have H := H1
                              clear H1
                              have H' := Aside0.mk H
                              clear H
                              go_wp2_with (first | (go_at_call 40; (with_reducible refine (bits_Prev.calls t351 t369 _ A47.out).mono ?_); rintro e w' ⟨rfl, ⟨nd, rfl⟩⟩) | (go_at_call 19; (with_reducible refine (steelyardlaw01_exact.calls t369 a0 true _ A48.out).mono ?_); rintro e w' ⟨rfl, ⟨nd, rfl⟩⟩))
                              go_meet
                              case rel => exact ⟨_, (false), (by first | rfl | (simp; done) | (simp [*]; done)), H', ⟨by have := HJ15.out; have := HJ24.out; have := HJ27.out; first | omega | exact Nat.le_refl _⟩, ⟨by repeat (first | (with_reducible first | exact HB.out | apply below_alloc | apply pw_below_drewN | apply below_drew1) | exact HB.out)⟩⟩
                            · replace c50 := Bool.eq_false_iff.mpr c50
                              subst c50
                              have H1 : (if (FloatKind.f64.format.order a0 0 != some .eq) = true then ((bits_Next.f t352).bind fun t371 => ((steelyardlaw01_exact.f t371 a0).bind fun t372 => (steelyardlaw01_BitsBetween.j3 kj27 a0 t350 false false (!t372)))) else (steelyardlaw01_BitsBetween.j3 kj27 a0 t350 false false false)) = some r := by rw [if_neg (show ¬ (false = true) by decide)] at H; exact H
                              clear H
                              have H := H1
                              clear H1
                              by_cases c51 : (FloatKind.f64.format.order a0 0 != some .eq) = true
                              · rw [if_pos c51] at H
                                have c51b0 : (FloatKind.f64.format.order a0 0 != some .eq) = true := c51
                                clear c51
                                replace H := Option.bind_eq_some_iff.mp H
                                obtain ⟨t371, A520, H⟩ := H
                                replace H : ((steelyardlaw01_exact.f t371 a0).bind fun t372 => (steelyardlaw01_BitsBetween.j3 kj27 a0 t350 false false (!t372))) = some r := H
                                have A52 := Aside0.mk A520
                                clear A520
                                replace H := Option.bind_eq_some_iff.mp H
                                obtain ⟨t372, A530, H⟩ := H
                                replace H : (steelyardlaw01_BitsBetween.j3 kj27 a0 t350 false false (!t372)) = some r := H
                                have A53 := Aside0.mk A530
                                clear A530
                                have H' := Aside0.mk H
                                clear H
                                go_wp2_with (first | (go_at_call 40; (with_reducible refine (bits_Prev.calls t351 t369 _ A47.out).mono ?_); rintro e w' ⟨rfl, ⟨nd, rfl⟩⟩) | (go_at_call 19; (with_reducible refine (steelyardlaw01_exact.calls t369 a0 true _ A48.out).mono ?_); rintro e w' ⟨rfl, ⟨nd, rfl⟩⟩) | (go_at_call 38; (with_reducible refine (bits_Next.calls t352 t371 _ A52.out).mono ?_); rintro e w' ⟨rfl, ⟨nd, rfl⟩⟩) | (go_at_call 19; (with_reducible refine (steelyardlaw01_exact.calls t371 a0 t372 _ A53.out).mono ?_); rintro e w' ⟨rfl, ⟨nd, rfl⟩⟩))
                                go_meet
                                case rel => exact ⟨_, (!t372), (by first | rfl | (simp; done) | (simp [*]; done)), H', ⟨by have := HJ15.out; have := HJ24.out; have := HJ27.out; first | omega | exact Nat.le_refl _⟩, ⟨by repeat (first | (with_reducible first | exact HB.out | apply below_alloc | apply pw_below_drewN | apply below_drew1) | exact HB.out)⟩⟩
                              · rw [if_neg c51] at H
                                have c51b0 : (FloatKind.f64.format.order a0 0 != some .eq) = false := by simpa using c51
                                clear c51
                                have H' := Aside0.mk H
                                clear H
                                go_wp2_with (first | (go_at_call 40; (with_reducible refine (bits_Prev.calls t351 t369 _ A47.out).mono ?_); rintro e w' ⟨rfl, ⟨nd, rfl⟩⟩) | (go_at_call 19; (with_reducible refine (steelyardlaw01_exact.calls t369 a0 true _ A48.out).mono ?_); rintro e w' ⟨rfl, ⟨nd, rfl⟩⟩))
                                go_meet
                                case rel => exact ⟨_, (false), (by first | rfl | (simp; done) | (simp [*]; done)), H', ⟨by have := HJ15.out; have := HJ24.out; have := HJ27.out; first | omega | exact Nat.le_refl _⟩, ⟨by repeat (first | (with_reducible first | exact HB.out | apply below_alloc | apply pw_below_drewN | apply below_drew1) | exact HB.out)⟩⟩
                          · replace c49 := Bool.eq_false_iff.mpr c49
                            subst c49
                            have H1 : (steelyardlaw01_BitsBetween.j3 kj27 a0 t350 false t359 true) = some r := by rw [if_neg (show ¬ (false = true) by decide)] at H; exact H
                            clear H
                            have H := H1
                            clear H1
                            have H' := Aside0.mk H
                            clear H
                            go_wp2_with (first | (go_at_call 40; (with_reducible refine (bits_Prev.calls t351 t369 _ A47.out).mono ?_); rintro e w' ⟨rfl, ⟨nd, rfl⟩⟩) | (go_at_call 19; (with_reducible refine (steelyardlaw01_exact.calls t369 a0 false _ A48.out).mono ?_); rintro e w' ⟨rfl, ⟨nd, rfl⟩⟩))
                            go_meet
                            case rel => exact ⟨_, (true), (by first | rfl | (simp; done) | (simp [*]; done)), H', ⟨by have := HJ15.out; have := HJ24.out; have := HJ27.out; first | omega | exact Nat.le_refl _⟩, ⟨by repeat (first | (with_reducible first | exact HB.out | apply below_alloc | apply pw_below_drewN | apply below_drew1) | exact HB.out)⟩⟩
                    case rest =>
                      clear HC31
                      try clear c1
                      try clear c2
                      try clear p2
                      try clear c3
                      try clear c4
                      try clear c5
                      try clear c6
                      try clear c6b0
                      try clear c7
                      try clear c10
                      try clear c12
                      try clear c13
                      try clear c14
                      try clear c18
                      try clear c18b0
                      try clear c19
                      try clear c19b0
                      try clear c20
                      try clear c20b0
                      try clear c21
                      try clear c21b0
                      try clear c22
                      try clear c26
                      try clear c26b0
                      try clear c26b1
                      try clear c27
                      try clear c29
                      try clear c29b0
                      try clear c32
                      try clear c33
                      try clear c34
                      try clear c34b0
                      try clear c37
                      try clear c38
                      try clear c40
                      try clear c41
                      try clear c42
                      try clear c42b0
                      try clear c44
                      try clear c49
                      try clear c50
                      try clear c51
                      try clear c51b0
                      try clear p2
                      obtain ⟨kq, x113_30, rfl, HA, HJ30, HB⟩ := hcut
                      cases kq with
                      | zero => exact absurd HA.out (by simp [steelyardlaw01_BitsBetween.j3])
                      | succ kj30 =>
                        have H := HA.out
                        clear HA
                        simp only [steelyardlaw01_BitsBetween.j3] at H
                        by_cases c54 : x113_30 = true
                        · subst c54
                          have H1 : (none) = some r := by rw [if_pos rfl] at H; exact H
                          clear H
                          have H := H1
                          clear H1
                          exact absurd H (by simp)
                        · replace c54 := Bool.eq_false_iff.mpr c54
                          subst c54
                          have H1 : ((bits_Ulp.f a0).bind fun t373 => (if t358 = true then (steelyardlaw01_BitsBetween.j4 kj30 a0 t350 t373 true) else (steelyardlaw01_BitsBetween.j4 kj30 a0 t350 t373 t359))) = some r := by rw [if_neg (show ¬ (false = true) by decide)] at H; exact H
                          clear H
                          have H := H1
                          clear H1
                          replace H := Option.bind_eq_some_iff.mp H
                          obtain ⟨t373, A550, H⟩ := H
                          replace H : (if t358 = true then (steelyardlaw01_BitsBetween.j4 kj30 a0 t350 t373 true) else (steelyardlaw01_BitsBetween.j4 kj30 a0 t350 t373 t359)) = some r := H
                          have A55 := Aside0.mk A550
                          clear A550
                          have HC56 := Aside0.mk H
                          clear H
                          go_upto_region 16 with (first | ((with_reducible refine gate_callee (f := 42) rfl ?_); refine goesL_ (some 115) rfl rfl Tryd.func42 (by kernel_rfl) rfl #[.float .f64 a0] rfl (by (try simp only [List.map_toArray, List.map_cons, List.map_nil]); first | done | rfl | (simp only [List.length_drop, List.length_take]; rfl)) ?_; (with_reducible refine (bits_Ulp.calls a0 t373 _ A55.out).mono ?_); rintro e w' ⟨rfl, ⟨nd, rfl⟩⟩; refine ⟨_, rfl, ?_⟩))
                          (try simp only [Act.put, List.setIfInBounds_toArray, List.set_cons_zero, List.set_cons_succ])
                          go_cut [119] (fun v119 wc => ∃ (kq : Nat) (x119_55 : Bool), v119 = .bool x119_55 ∧ Aside0 (steelyardlaw01_BitsBetween.j4 kq a0 t350 t373 x119_55 = some r) ∧ Aside0 (kq ≤ kj30) ∧ Aside0 (Below w.heap.size w wc))
                          case first =>
                            have H := HC56.out
                            clear HC56
                            by_cases c57 : t358 = true
                            · subst c57
                              have H1 : (steelyardlaw01_BitsBetween.j4 kj30 a0 t350 t373 true) = some r := by rw [if_pos rfl] at H; exact H
                              clear H
                              have H := H1
                              clear H1
                              have H' := Aside0.mk H
                              clear H
                              go_wp2
                              go_meet
                              case rel => exact ⟨_, (true), (by first | rfl | (simp; done) | (simp [*]; done)), H', ⟨by have := HJ15.out; have := HJ24.out; have := HJ27.out; have := HJ30.out; first | omega | exact Nat.le_refl _⟩, ⟨by repeat (first | (with_reducible first | exact HB.out | apply below_alloc | apply pw_below_drewN | apply below_drew1) | exact HB.out)⟩⟩
                            · replace c57 := Bool.eq_false_iff.mpr c57
                              subst c57
                              have H1 : (steelyardlaw01_BitsBetween.j4 kj30 a0 t350 t373 t359) = some r := by rw [if_neg (show ¬ (false = true) by decide)] at H; exact H
                              clear H
                              have H := H1
                              clear H1
                              have H' := Aside0.mk H
                              clear H
                              go_wp2
                              go_meet
                              case rel => exact ⟨_, (t359), (by first | rfl | (simp; done) | (simp [*]; done)), H', ⟨by have := HJ15.out; have := HJ24.out; have := HJ27.out; have := HJ30.out; first | omega | exact Nat.le_refl _⟩, ⟨by repeat (first | (with_reducible first | exact HB.out | apply below_alloc | apply pw_below_drewN | apply below_drew1) | exact HB.out)⟩⟩
                          case rest =>
                            clear HC56
                            try clear c1
                            try clear c2
                            try clear p2
                            try clear c3
                            try clear c4
                            try clear c5
                            try clear c6
                            try clear c6b0
                            try clear c7
                            try clear c10
                            try clear c12
                            try clear c13
                            try clear c14
                            try clear c18
                            try clear c18b0
                            try clear c19
                            try clear c19b0
                            try clear c20
                            try clear c20b0
                            try clear c21
                            try clear c21b0
                            try clear c22
                            try clear c26
                            try clear c26b0
                            try clear c26b1
                            try clear c27
                            try clear c29
                            try clear c29b0
                            try clear c32
                            try clear c33
                            try clear c34
                            try clear c34b0
                            try clear c37
                            try clear c38
                            try clear c40
                            try clear c41
                            try clear c42
                            try clear c42b0
                            try clear c44
                            try clear c49
                            try clear c50
                            try clear c51
                            try clear c51b0
                            try clear c54
                            try clear c57
                            try clear p2
                            obtain ⟨kq, x119_55, rfl, HA, HJ55, HB⟩ := hcut
                            cases kq with
                            | zero => exact absurd HA.out (by simp [steelyardlaw01_BitsBetween.j4])
                            | succ kj55 =>
                              have H := HA.out
                              clear HA
                              simp only [steelyardlaw01_BitsBetween.j4] at H
                              by_cases c58 : x119_55 = true
                              · subst c58
                                have H1 : (if t350 = true then ((math_IsInf.f t373 1).bind fun t374 => (some t374)) else (none)) = some r := by rw [if_pos rfl] at H; exact H
                                clear H
                                have H := H1
                                clear H1
                                by_cases c59 : t350 = true
                                · subst c59
                                  have H1 : ((math_IsInf.f t373 1).bind fun t374 => (some t374)) = some r := by rw [if_pos rfl] at H; exact H
                                  clear H
                                  have H := H1
                                  clear H1
                                  replace H := Option.bind_eq_some_iff.mp H
                                  obtain ⟨t374, A600, H⟩ := H
                                  replace H : (some t374) = some r := H
                                  have A60 := Aside0.mk A600
                                  clear A600
                                  obtain rfl := Option.some.inj H
                                  go_wp2_with (first | (go_at_call 44; (with_reducible refine (math_IsInf.calls t373 1 t374 _ A60.out).mono ?_); rintro e w' ⟨rfl, ⟨nd, rfl⟩⟩))
                                  go_ret
                                  exact ⟨by first | rfl | (simp [errW_none, errW_some] <;> rfl) | (simp [*, errW_none, errW_some] <;> rfl), by repeat (first | (with_reducible first | exact HB.out | apply below_alloc | apply pw_below_drewN | apply below_drew1) | exact HB.out)⟩
                                · replace c59 := Bool.eq_false_iff.mpr c59
                                  subst c59
                                  have H1 : (none) = some r := by rw [if_neg (show ¬ (false = true) by decide)] at H; exact H
                                  clear H
                                  have H := H1
                                  clear H1
                                  exact absurd H (by simp)
                              · replace c58 := Bool.eq_false_iff.mpr c58
                                subst c58
                                have H1 : ((math_Abs.f a0).bind fun t375 => ((bits_Next.f t375).bind fun t376 => (if (FloatKind.f64.format.sub t376 t375).isSome = true then (if t350 = true then (if (FloatKind.f64.format.order ((FloatKind.f64.format.sub t376 t375).getD 0) t373 == some .eq) = true then (some true) else ((math_IsInf.f ((FloatKind.f64.format.sub t376 t375).getD 0) 1).bind fun t377 => (if t377 = true then ((bits_Prev.f t375).bind fun t378 => (if (FloatKind.f64.format.sub t375 t378).isSome = true then (some (FloatKind.f64.format.order ((FloatKind.f64.format.sub t375 t378).getD 0) t373 == some .eq)) else (none))) else (none)))) else (none)) else (none)))) = some r := by rw [if_neg (show ¬ (false = true) by decide)] at H; exact H
                                clear H
                                have H := H1
                                clear H1
                                replace H := Option.bind_eq_some_iff.mp H
                                obtain ⟨t375, A610, H⟩ := H
                                replace H : ((bits_Next.f t375).bind fun t376 => (if (FloatKind.f64.format.sub t376 t375).isSome = true then (if t350 = true then (if (FloatKind.f64.format.order ((FloatKind.f64.format.sub t376 t375).getD 0) t373 == some .eq) = true then (some true) else ((math_IsInf.f ((FloatKind.f64.format.sub t376 t375).getD 0) 1).bind fun t377 => (if t377 = true then ((bits_Prev.f t375).bind fun t378 => (if (FloatKind.f64.format.sub t375 t378).isSome = true then (some (FloatKind.f64.format.order ((FloatKind.f64.format.sub t375 t378).getD 0) t373 == some .eq)) else (none))) else (none)))) else (none)) else (none))) = some r := H
                                have A61 := Aside0.mk A610
                                clear A610
                                replace H := Option.bind_eq_some_iff.mp H
                                obtain ⟨t376, A620, H⟩ := H
                                replace H : (if (FloatKind.f64.format.sub t376 t375).isSome = true then (if t350 = true then (if (FloatKind.f64.format.order ((FloatKind.f64.format.sub t376 t375).getD 0) t373 == some .eq) = true then (some true) else ((math_IsInf.f ((FloatKind.f64.format.sub t376 t375).getD 0) 1).bind fun t377 => (if t377 = true then ((bits_Prev.f t375).bind fun t378 => (if (FloatKind.f64.format.sub t375 t378).isSome = true then (some (FloatKind.f64.format.order ((FloatKind.f64.format.sub t375 t378).getD 0) t373 == some .eq)) else (none))) else (none)))) else (none)) else (none)) = some r := H
                                have A62 := Aside0.mk A620
                                clear A620
                                by_cases c63 : (FloatKind.f64.format.sub t376 t375).isSome = true
                                · rw [if_pos c63] at H
                                  have c63b0 : (FloatKind.f64.format.sub t376 t375).isSome = true := c63
                                  clear c63
                                  by_cases c64 : t350 = true
                                  · subst c64
                                    have H1 : (if (FloatKind.f64.format.order ((FloatKind.f64.format.sub t376 t375).getD 0) t373 == some .eq) = true then (some true) else ((math_IsInf.f ((FloatKind.f64.format.sub t376 t375).getD 0) 1).bind fun t377 => (if t377 = true then ((bits_Prev.f t375).bind fun t378 => (if (FloatKind.f64.format.sub t375 t378).isSome = true then (some (FloatKind.f64.format.order ((FloatKind.f64.format.sub t375 t378).getD 0) t373 == some .eq)) else (none))) else (none)))) = some r := by rw [if_pos rfl] at H; exact H
                                    clear H
                                    have H := H1
                                    clear H1
                                    by_cases c65 : (FloatKind.f64.format.order ((FloatKind.f64.format.sub t376 t375).getD 0) t373 == some .eq) = true
                                    · rw [if_pos c65] at H
                                      have c65b0 : (FloatKind.f64.format.order ((FloatKind.f64.format.sub t376 t375).getD 0) t373 == some .eq) = true := c65
                                      clear c65
                                      obtain rfl := Option.some.inj H
                                      go_wp2_with (first | ((with_reducible refine gate_callee (f := 45) rfl ?_); refine goesL_ (some 126) rfl rfl Tryd.func45 (by kernel_rfl) rfl #[.float .f64 a0] rfl (by (try simp only [List.map_toArray, List.map_cons, List.map_nil]); first | done | rfl | (simp only [List.length_drop, List.length_take]; rfl)) ?_; (with_reducible refine (math_Abs.calls a0 t375 _ A61.out).mono ?_); rintro e w' ⟨rfl, ⟨nd, rfl⟩⟩; refine ⟨_, rfl, ?_⟩) | ((with_reducible refine gate_callee (f := 38) rfl ?_); refine goesL_ (some 128) rfl rfl Tryd.func38 (by kernel_rfl) rfl #[.float .f64 t375] rfl (by (try simp only [List.map_toArray, List.map_cons, List.map_nil]); first | done | rfl | (simp only [List.length_drop, List.length_take]; rfl)) ?_; (with_reducible refine (bits_Next.calls t375 t376 _ A62.out).mono ?_); rintro e w' ⟨rfl, ⟨nd, rfl⟩⟩; refine ⟨_, rfl, ?_⟩))
                                      go_ret
                                      exact ⟨by first | rfl | (simp [errW_none, errW_some] <;> rfl) | (simp [*, errW_none, errW_some] <;> rfl), by repeat (first | (with_reducible first | exact HB.out | apply below_alloc | apply pw_below_drewN | apply below_drew1) | exact HB.out)⟩
                                    · rw [if_neg c65] at H
                                      have c65b0 : (FloatKind.f64.format.order ((FloatKind.f64.format.sub t376 t375).getD 0) t373 == some .eq) = false := by simpa using c65
                                      clear c65
                                      replace H := Option.bind_eq_some_iff.mp H
                                      obtain ⟨t377, A660, H⟩ := H
                                      replace H : (if t377 = true then ((bits_Prev.f t375).bind fun t378 => (if (FloatKind.f64.format.sub t375 t378).isSome = true then (some (FloatKind.f64.format.order ((FloatKind.f64.format.sub t375 t378).getD 0) t373 == some .eq)) else (none))) else (none)) = some r := H
                                      have A66 := Aside0.mk A660
                                      clear A660
                                      by_cases c67 : t377 = true
                                      · subst c67
                                        have H1 : ((bits_Prev.f t375).bind fun t378 => (if (FloatKind.f64.format.sub t375 t378).isSome = true then (some (FloatKind.f64.format.order ((FloatKind.f64.format.sub t375 t378).getD 0) t373 == some .eq)) else (none))) = some r := by rw [if_pos rfl] at H; exact H
                                        clear H
                                        have H := H1
                                        clear H1
                                        replace H := Option.bind_eq_some_iff.mp H
                                        obtain ⟨t378, A680, H⟩ := H
                                        replace H : (if (FloatKind.f64.format.sub t375 t378).isSome = true then (some (FloatKind.f64.format.order ((FloatKind.f64.format.sub t375 t378).getD 0) t373 == some .eq)) else (none)) = some r := H
                                        have A68 := Aside0.mk A680
                                        clear A680
                                        by_cases c69 : (FloatKind.f64.format.sub t375 t378).isSome = true
                                        · rw [if_pos c69] at H
                                          have c69b0 : (FloatKind.f64.format.sub t375 t378).isSome = true := c69
                                          clear c69
                                          obtain rfl := Option.some.inj H
                                          go_wp2_with (first | ((with_reducible refine gate_callee (f := 45) rfl ?_); refine goesL_ (some 126) rfl rfl Tryd.func45 (by kernel_rfl) rfl #[.float .f64 a0] rfl (by (try simp only [List.map_toArray, List.map_cons, List.map_nil]); first | done | rfl | (simp only [List.length_drop, List.length_take]; rfl)) ?_; (with_reducible refine (math_Abs.calls a0 t375 _ A61.out).mono ?_); rintro e w' ⟨rfl, ⟨nd, rfl⟩⟩; refine ⟨_, rfl, ?_⟩) | ((with_reducible refine gate_callee (f := 38) rfl ?_); refine goesL_ (some 128) rfl rfl Tryd.func38 (by kernel_rfl) rfl #[.float .f64 t375] rfl (by (try simp only [List.map_toArray, List.map_cons, List.map_nil]); first | done | rfl | (simp only [List.length_drop, List.length_take]; rfl)) ?_; (with_reducible refine (bits_Next.calls t375 t376 _ A62.out).mono ?_); rintro e w' ⟨rfl, ⟨nd, rfl⟩⟩; refine ⟨_, rfl, ?_⟩) | (go_at_call 44; (with_reducible refine (math_IsInf.calls ((FloatKind.f64.format.sub t376 t375).getD 0) 1 true _ A66.out).mono ?_); rintro e w' ⟨rfl, ⟨nd, rfl⟩⟩) | (go_at_call 40; (with_reducible refine (bits_Prev.calls t375 t378 _ A68.out).mono ?_); rintro e w' ⟨rfl, ⟨nd, rfl⟩⟩))
                                          go_ret
                                          exact ⟨by first | rfl | (simp [errW_none, errW_some] <;> rfl) | (simp [*, errW_none, errW_some] <;> rfl), by repeat (first | (with_reducible first | exact HB.out | apply below_alloc | apply pw_below_drewN | apply below_drew1) | exact HB.out)⟩
                                        · rw [if_neg c69] at H
                                          exact absurd H (by simp)
                                      · replace c67 := Bool.eq_false_iff.mpr c67
                                        subst c67
                                        have H1 : (none) = some r := by rw [if_neg (show ¬ (false = true) by decide)] at H; exact H
                                        clear H
                                        have H := H1
                                        clear H1
                                        exact absurd H (by simp)
                                  · replace c64 := Bool.eq_false_iff.mpr c64
                                    subst c64
                                    have H1 : (none) = some r := by rw [if_neg (show ¬ (false = true) by decide)] at H; exact H
                                    clear H
                                    have H := H1
                                    clear H1
                                    exact absurd H (by simp)
                                · rw [if_neg c63] at H
                                  exact absurd H (by simp)

/-- THE ONE PURE STATEMENT of steelyardlaw01_BitsBetween: yours. -/
def steelyardlaw01_BitsBetween.Pure : Prop := ∀ (a0 : Nat) (a1 : Nat), (Lit.float .f64 a0).wf = true → (Lit.float .f64 a1).wf = true → ∃ k, steelyardlaw01_BitsBetween.f k a0 a1 = some true

end Go.Proofs.YtjkcgelemidapaaDoor.Pr
