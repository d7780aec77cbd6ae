-- written by this session's own program (wip/fprint.py), which widens the kit's print by floats
import Derived.Test.YtjkcgelemidapaaDoorPr0
import Derived.Test.YtjkcgelemidapaaDoorPr6
import Derived.Test.YtjkcgelemidapaaDoorPr7
namespace Go.Proofs.YtjkcgelemidapaaDoor.Pr
open Go.RowKit Go.Proofs.YtjkcgelemidapaaDoorW.PrintWords Go.Proofs.YtjkcgelemidapaaDoorW.PrintLast Go.Proofs.YtjkcgelemidapaaDoorW.PrintMore
attribute [local go_sem] max2_int min2_int max_two min_two max_three min_three max_four min_four   -- for this text's walks alone
set_option linter.unusedVariables false
set_option linter.unusedSimpArgs false

/-! ### bits_Narrow: function 24 -/
mutual
def bits_Narrow.j0 : Nat → Nat → Int → Bool → Option (Nat × Int)
  | 0, _, _, _ => none
  | k + 1, x0, x1, x15 => if x15 = true then (some (0, 1)) else (if (FloatKind.f64.format.order x0 x0 != some .eq) = true then (some (2143289344, 0)) else (if 0 ≤ x1 then (if x1 < 5 then ((math_Signbit.f x0).bind fun t133 => (if t133 = true then (bits_Narrow.j1 k x0 x1 2147483648 (glob_1 x1)) else (bits_Narrow.j1 k x0 x1 0 (glob_0 x1)))) else (none)) else (none)))
def bits_Narrow.j1 : Nat → Nat → Int → Int → Int → Option (Nat × Int)
  | 0, _, _, _, _ => none
  | k + 1, x0, x1, x6, x7 => (math_Abs.f x0).bind fun t134 => (if (floatToFloatBits .f64 t134 .f32).isSome = true then ((bits_grown.f (((floatToFloatBits .f64 t134 .f32).getD 0 : Nat) : Int)).bind fun t135 => ((math_IsInf.f t134 1).bind fun t136 => (if t136 = true then (some ((Go.bits .or .u32 (((floatToFloatBits .f64 t134 .f32).getD 0 : Nat) : Int) x6 : Int).toNat, 0)) else (if x7 = 1 then (if (FloatKind.f64.format.order t135 t134 == some .gt) = true then (bits_Narrow.j2 k t134 x1 x6 x7 (((floatToFloatBits .f64 t134 .f32).getD 0 : Nat) : Int) t135 true) else (bits_Narrow.j2 k t134 x1 x6 x7 (((floatToFloatBits .f64 t134 .f32).getD 0 : Nat) : Int) t135 ((((floatToFloatBits .f64 t134 .f32).getD 0 : Nat) : Int) == 2139095040))) else (bits_Narrow.j2 k t134 x1 x6 x7 (((floatToFloatBits .f64 t134 .f32).getD 0 : Nat) : Int) t135 false))))) else (none))
def bits_Narrow.j2 : Nat → Nat → Int → Int → Int → Int → Nat → Bool → Option (Nat × Int)
  | 0, _, _, _, _, _, _, _ => none
  | k + 1, x0, x1, x6, x7, x8, x9, x41 => if x41 = true then (some ((Go.bits .or .u32 ((x8 - 1) % 4294967296) x6 : Int).toNat, 0)) else (if x8 = 2139095040 then (some ((Go.bits .or .u32 x8 x6 : Int).toNat, 0)) else (if x7 = 2 then (bits_Narrow.j3 k x0 x1 x6 x8 x9 (FloatKind.f64.format.order x9 x0 == some .lt)) else (bits_Narrow.j3 k x0 x1 x6 x8 x9 false)))
def bits_Narrow.j3 : Nat → Nat → Int → Int → Int → Nat → Bool → Option (Nat × Int)
  | 0, _, _, _, _, _, _ => none
  | k + 1, x0, x1, x6, x8, x9, x58 => if x58 = true then (some ((Go.bits .or .u32 ((x8 + 1) % 4294967296) x6 : Int).toNat, 0)) else (if x1 = 4 then (if (FloatKind.f64.format.order x9 x0 == some .lt) = true then (if (FloatKind.f64.format.sub x0 x9).isSome = true then ((bits_grown.f ((x8 + 1) % 4294967296)).bind fun t137 => (if (FloatKind.f64.format.sub t137 x0).isSome = true then (if (FloatKind.f64.format.order ((FloatKind.f64.format.sub x0 x9).getD 0) ((FloatKind.f64.format.sub t137 x0).getD 0) == some .eq) = true then (some ((Go.bits .or .u32 ((x8 + 1) % 4294967296) x6 : Int).toNat, 0)) else (some ((Go.bits .or .u32 x8 x6 : Int).toNat, 0))) else (none))) else (none)) else (some ((Go.bits .or .u32 x8 x6 : Int).toNat, 0))) else (some ((Go.bits .or .u32 x8 x6 : Int).toNat, 0)))
end
def bits_Narrow.f (k : Nat) (a0 : Nat) (a1 : Int) : Option (Nat × Int) := if a1 < 0 then (bits_Narrow.j0 k a0 a1 true) else (bits_Narrow.j0 k a0 a1 (decide (a1 ≥ 5)))
theorem bits_Narrow.mono_l : ∀ k, (∀ y0 y1 y2, LeO (bits_Narrow.j0 k y0 y1 y2) (bits_Narrow.j0 (k + 1) y0 y1 y2)) ∧ (∀ y0 y1 y2 y3, LeO (bits_Narrow.j1 k y0 y1 y2 y3) (bits_Narrow.j1 (k + 1) y0 y1 y2 y3)) ∧ (∀ y0 y1 y2 y3 y4 y5 y6, LeO (bits_Narrow.j2 k y0 y1 y2 y3 y4 y5 y6) (bits_Narrow.j2 (k + 1) y0 y1 y2 y3 y4 y5 y6)) ∧ (∀ y0 y1 y2 y3 y4 y5, LeO (bits_Narrow.j3 k y0 y1 y2 y3 y4 y5) (bits_Narrow.j3 (k + 1) y0 y1 y2 y3 y4 y5))
  | 0 => ⟨fun _ _ _ r h => by simp [bits_Narrow.j0] at h, fun _ _ _ _ r h => by simp [bits_Narrow.j1] at h, fun _ _ _ _ _ _ _ r h => by simp [bits_Narrow.j2] at h, fun _ _ _ _ _ _ r h => by simp [bits_Narrow.j3] at h⟩
  | k + 1 => by
    obtain ⟨ih0, ih1, ih2, ih3⟩ := bits_Narrow.mono_l k
    refine ⟨?_, ?_, ?_, ?_⟩
    · intro y0 y1 y2
      unfold bits_Narrow.j0
      repeat' first
      | (with_reducible exact ih0 _ _ _)
      | (with_reducible exact ih1 _ _ _ _)
      | (with_reducible exact ih2 _ _ _ _ _ _ _)
      | (with_reducible exact ih3 _ _ _ _ _ _)
      | (with_reducible exact LeO.refl _)
      | (with_reducible exact LeO.none _)
      | (with_reducible refine LeO.ite ?_ ?_)
      | (with_reducible refine LeO.bind ?_ (fun _ => ?_))
      | exact ih0 _ _ _
      | exact ih1 _ _ _ _
      | exact ih2 _ _ _ _ _ _ _
      | exact ih3 _ _ _ _ _ _
      | exact LeO.none _
      | refine LeO.ite ?_ ?_
      | refine LeO.bind ?_ (fun _ => ?_)
    · intro y0 y1 y2 y3
      unfold bits_Narrow.j1
      repeat' first
      | (with_reducible exact ih0 _ _ _)
      | (with_reducible exact ih1 _ _ _ _)
      | (with_reducible exact ih2 _ _ _ _ _ _ _)
      | (with_reducible exact ih3 _ _ _ _ _ _)
      | (with_reducible exact LeO.refl _)
      | (with_reducible exact LeO.none _)
      | (with_reducible refine LeO.ite ?_ ?_)
      | (with_reducible refine LeO.bind ?_ (fun _ => ?_))
      | exact ih0 _ _ _
      | exact ih1 _ _ _ _
      | exact ih2 _ _ _ _ _ _ _
      | exact ih3 _ _ _ _ _ _
      | exact LeO.none _
      | refine LeO.ite ?_ ?_
      | refine LeO.bind ?_ (fun _ => ?_)
    · intro y0 y1 y2 y3 y4 y5 y6
      unfold bits_Narrow.j2
      repeat' first
      | (with_reducible exact ih0 _ _ _)
      | (with_reducible exact ih1 _ _ _ _)
      | (with_reducible exact ih2 _ _ _ _ _ _ _)
      | (with_reducible exact ih3 _ _ _ _ _ _)
      | (with_reducible exact LeO.refl _)
      | (with_reducible exact LeO.none _)
      | (with_reducible refine LeO.ite ?_ ?_)
      | (with_reducible refine LeO.bind ?_ (fun _ => ?_))
      | exact ih0 _ _ _
      | exact ih1 _ _ _ _
      | exact ih2 _ _ _ _ _ _ _
      | exact ih3 _ _ _ _ _ _
      | exact LeO.none _
      | refine LeO.ite ?_ ?_
      | refine LeO.bind ?_ (fun _ => ?_)
    · intro y0 y1 y2 y3 y4 y5
      unfold bits_Narrow.j3
      repeat' first
      | (with_reducible exact ih0 _ _ _)
      | (with_reducible exact ih1 _ _ _ _)
      | (with_reducible exact ih2 _ _ _ _ _ _ _)
      | (with_reducible exact ih3 _ _ _ _ _ _)
      | (with_reducible exact LeO.refl _)
      | (with_reducible exact LeO.none _)
      | (with_reducible refine LeO.ite ?_ ?_)
      | (with_reducible refine LeO.bind ?_ (fun _ => ?_))
      | exact ih0 _ _ _
      | exact ih1 _ _ _ _
      | exact ih2 _ _ _ _ _ _ _
      | exact ih3 _ _ _ _ _ _
      | exact LeO.none _
      | refine LeO.ite ?_ ?_
      | refine LeO.bind ?_ (fun _ => ?_)
theorem bits_Narrow.mono : ∀ a0 a1 k, LeO (bits_Narrow.f k a0 a1) (bits_Narrow.f (k + 1) a0 a1) := by
  intro a0 a1 k
  obtain ⟨ih0, ih1, ih2, ih3⟩ := bits_Narrow.mono_l k
  unfold bits_Narrow.f
  repeat' first
      | (with_reducible exact ih0 _ _ _)
      | (with_reducible exact ih1 _ _ _ _)
      | (with_reducible exact ih2 _ _ _ _ _ _ _)
      | (with_reducible exact ih3 _ _ _ _ _ _)
      | (with_reducible exact LeO.refl _)
      | (with_reducible exact LeO.none _)
      | (with_reducible refine LeO.ite ?_ ?_)
      | (with_reducible refine LeO.bind ?_ (fun _ => ?_))
      | exact ih0 _ _ _
      | exact ih1 _ _ _ _
      | exact ih2 _ _ _ _ _ _ _
      | exact ih3 _ _ _ _ _ _
      | exact LeO.none _
      | refine LeO.ite ?_ ?_
      | refine LeO.bind ?_ (fun _ => ?_)
set_option maxHeartbeats 3000000 in
set_option maxRecDepth 100000 in
theorem bits_Narrow.calls (k : Nat) (a0 : Nat) (a1 : Int) (r1 : Nat) (r2 : Int) (w : World) (hG : GlobLaid w) (h : bits_Narrow.f k a0 a1 = some (r1, r2)) :
    Calls Tryd.prog 24 #[.float .f64 a0, .int .i64 a1] w fun e w' => e = .returned (.tuple #[.float .f32 r1, .int .i64 r2]) ∧ Drawn0 w w' := by
  have HG := Aside0.mk hG
  clear hG
  have H : (if a1 < 0 then (bits_Narrow.j0 k a0 a1 true) else (bits_Narrow.j0 k a0 a1 (decide (a1 ≥ 5)))) = some (r1, r2) := h
  clear h
  have HC3 := Aside0.mk H
  clear H
  go_enter Tryd.func24, Tryd.ntmps24
  go_upto_region 1 with (fail)
  repeat (go_quiet (fail); go_upto_region 1 with (fail))
  go_cut [15] (fun v15 wc => ∃ (kq : Nat) (x15_2 : Bool), v15 = .bool x15_2 ∧ Aside0 (bits_Narrow.j0 kq a0 a1 x15_2 = some (r1, r2)) ∧ Aside0 (kq ≤ k) ∧ Drawn0 w wc)
  case first =>
    have H := HC3.out
    clear HC3
    by_cases c4 : a1 < 0
    · rw [if_pos c4] at H
      have c4b0 : decide (a1 < 0) = true := decide_eq_true c4
      clear c4
      (first | rw [c4b0] | (simp only [i64_w, i32_w]; rw [c4b0]) | skip)
      have H' := Aside0.mk H
      clear H
      go_wp2
      repeat (go_quiet (fail); try go_wp2)
      go_meet
      case rel => exact ⟨_, (true), (by first | rfl | (simp; done) | (simp [*]; done)), H', ⟨by first | omega | exact Nat.le_refl _⟩, by repeat (first | exact Drawn0.refl _ | apply Drawn0.step)⟩
    · rw [if_neg c4] at H
      have c4b0 : decide (a1 < 0) = false := decide_eq_false c4
      clear c4
      (first | rw [c4b0] | (simp only [i64_w, i32_w]; rw [c4b0]) | skip)
      have H' := Aside0.mk H
      clear H
      go_wp2
      repeat (go_quiet (fail); try go_wp2)
      go_meet
      case rel => exact ⟨_, (decide (a1 ≥ 5)), (by first | rfl | (simp; done) | (simp [*]; done)), H', ⟨by first | omega | exact Nat.le_refl _⟩, by repeat (first | exact Drawn0.refl _ | apply Drawn0.step)⟩
  case rest =>
    clear HC3
    try clear c2
    try clear p2
    try clear c4
    try clear c4b0
    obtain ⟨kq, x15_2, rfl, HA, HJ2, ⟨mc2, rfl⟩⟩ := hcut
    cases kq with
    | zero => exact absurd HA.out (by simp [bits_Narrow.j0])
    | succ kj2 =>
      have H := HA.out
      clear HA
      simp only [bits_Narrow.j0] at H
      by_cases c5 : x15_2 = true
      · subst c5
        have H1 : (some (0, 1)) = some (r1, r2) := by rw [if_pos rfl] at H; exact H
        clear H
        have H := H1
        clear H1
        simp only [Option.some.injEq, Prod.mk.injEq] at H
        obtain ⟨rfl, rfl⟩ := H
        go_wp2
        repeat (go_quiet (fail); try go_wp2)
        go_ret2
        exact ⟨by first | rfl | (simp; done) | (simp [*]; done), by repeat (first | exact Drawn0.refl _ | apply Drawn0.step)⟩
      · replace c5 := Bool.eq_false_iff.mpr c5
        subst c5
        have H1 : (if (FloatKind.f64.format.order a0 a0 != some .eq) = true then (some (2143289344, 0)) else (if 0 ≤ a1 then (if a1 < 5 then ((math_Signbit.f a0).bind fun t133 => (if t133 = true then (bits_Narrow.j1 kj2 a0 a1 2147483648 (glob_1 a1)) else (bits_Narrow.j1 kj2 a0 a1 0 (glob_0 a1)))) else (none)) else (none))) = some (r1, r2) := by rw [if_neg (show ¬ (false = true) by decide)] at H; exact H
        clear H
        have H := H1
        clear H1
        by_cases c6 : (FloatKind.f64.format.order a0 a0 != some .eq) = true
        · rw [if_pos c6] at H
          have c6b0 : (FloatKind.f64.format.order a0 a0 != some .eq) = true := c6
          clear c6
          simp only [Option.some.injEq, Prod.mk.injEq] at H
          obtain ⟨rfl, rfl⟩ := H
          go_wp2
          repeat (go_quiet (fail); try go_wp2)
          go_ret2
          exact ⟨by first | rfl | (simp; done) | (simp [*]; done), by repeat (first | exact Drawn0.refl _ | apply Drawn0.step)⟩
        · rw [if_neg c6] at H
          have c6b0 : (FloatKind.f64.format.order a0 a0 != some .eq) = false := by simpa using c6
          clear c6
          by_cases c7 : 0 ≤ a1
          · rw [if_pos c7] at H
            have c7b0 : decide (0 ≤ a1) = true := decide_eq_true c7
            clear c7
            by_cases c8 : a1 < 5
            · rw [if_pos c8] at H
              have c8b0 : decide (a1 < 5) = true := decide_eq_true c8
              clear c8
              have plg9 : 0 ≤ a1 := of_decide_eq_true (by first | (with_reducible assumption) | assumption)
              have pug9 : a1 < 5 := of_decide_eq_true (by first | (with_reducible assumption) | assumption)
              have hgg9 := glob_cell_0 HG.out a1 plg9 pug9
              replace plg9 := eq_true plg9
              replace pug9 := eq_true pug9
              replace H := Option.bind_eq_some_iff.mp H
              obtain ⟨t133, A100, H⟩ := H
              replace H : (if t133 = true then (bits_Narrow.j1 kj2 a0 a1 2147483648 (glob_1 a1)) else (bits_Narrow.j1 kj2 a0 a1 0 (glob_0 a1))) = some (r1, r2) := H
              have A10 := Aside0.mk A100
              clear A100
              have HC11 := Aside0.mk H
              clear H
              go_upto_if 25 with (first | (go_at_call 21; (with_reducible refine (math_Signbit.calls a0 t133 _ A10.out).mono ?_); rintro e w' ⟨rfl, ⟨nd, rfl⟩⟩; (try first | exact ⟨rfl, _, World.drewN_drewN _ _ _⟩ | exact ⟨rfl, _, Eq.trans (World.drewN_drewN _ _ _) (congrArg (World.drewN _) (Nat.add_assoc _ _ _))⟩)))
              repeat (go_quiet (first | (go_at_call 21; (with_reducible refine (math_Signbit.calls a0 t133 _ A10.out).mono ?_); rintro e w' ⟨rfl, ⟨nd, rfl⟩⟩; (try first | exact ⟨rfl, _, World.drewN_drewN _ _ _⟩ | exact ⟨rfl, _, Eq.trans (World.drewN_drewN _ _ _) (congrArg (World.drewN _) (Nat.add_assoc _ _ _))⟩))); go_upto_if 25 with (first | (go_at_call 21; (with_reducible refine (math_Signbit.calls a0 t133 _ A10.out).mono ?_); rintro e w' ⟨rfl, ⟨nd, rfl⟩⟩; (try first | exact ⟨rfl, _, World.drewN_drewN _ _ _⟩ | exact ⟨rfl, _, Eq.trans (World.drewN_drewN _ _ _) (congrArg (World.drewN _) (Nat.add_assoc _ _ _))⟩))))
              (try simp only [Act.put, List.setIfInBounds_toArray, List.set_cons_zero, List.set_cons_succ])
              go_cut [6, 7] (fun v6 v7 wc => ∃ (kq : Nat) (x6_10 : Int) (x7_10 : Int), v6 = .int .u32 x6_10 ∧ v7 = .int .i64 x7_10 ∧ Aside0 (bits_Narrow.j1 kq a0 a1 x6_10 x7_10 = some (r1, r2)) ∧ Aside0 (kq ≤ kj2) ∧ Drawn0 w wc)
              case first =>
                have H := HC11.out
                clear HC11
                by_cases c12 : t133 = true
                · subst c12
                  have H1 : (bits_Narrow.j1 kj2 a0 a1 2147483648 (glob_1 a1)) = some (r1, r2) := by rw [if_pos rfl] at H; exact H
                  clear H
                  have H := H1
                  clear H1
                  have plg13 : 0 ≤ a1 := of_decide_eq_true (by first | (with_reducible assumption) | assumption)
                  have pug13 : a1 < 5 := of_decide_eq_true (by first | (with_reducible assumption) | assumption)
                  have hgg13 := glob_cell_1 HG.out a1 plg13 pug13
                  replace plg13 := eq_true plg13
                  replace pug13 := eq_true pug13
                  have H' := Aside0.mk H
                  clear H
                  go_wp2
                  repeat (go_quiet (fail); try go_wp2)
                  go_meet
                  case rel => exact ⟨_, (2147483648), (glob_1 a1), (by first | rfl | (simp; done) | (simp [*]; done)), (by first | rfl | (simp; done) | (simp [*]; done)), H', ⟨by have := HJ2.out; first | omega | exact Nat.le_refl _⟩, by repeat (first | exact Drawn0.refl _ | apply Drawn0.step)⟩
                · replace c12 := Bool.eq_false_iff.mpr c12
                  subst c12
                  have H1 : (bits_Narrow.j1 kj2 a0 a1 0 (glob_0 a1)) = some (r1, r2) := by rw [if_neg (show ¬ (false = true) by decide)] at H; exact H
                  clear H
                  have H := H1
                  clear H1
                  have H' := Aside0.mk H
                  clear H
                  go_wp2
                  repeat (go_quiet (fail); try go_wp2)
                  go_meet
                  case rel => exact ⟨_, (0), (glob_0 a1), (by first | rfl | (simp; done) | (simp [*]; done)), (by first | rfl | (simp; done) | (simp [*]; done)), H', ⟨by have := HJ2.out; first | omega | exact Nat.le_refl _⟩, by repeat (first | exact Drawn0.refl _ | apply Drawn0.step)⟩
              case rest =>
                clear HC11
                try clear c1
                try clear c2
                try clear p2
                try clear c4
                try clear c4b0
                try clear c5
                try clear c6
                try clear c6b0
                try clear c7
                try clear c7b0
                try clear c8
                try clear c8b0
                try clear c12
                try clear p2
                obtain ⟨kq, x6_10, x7_10, rfl, rfl, HA, HJ10, ⟨mc10, rfl⟩⟩ := hcut
                cases kq with
                | zero => exact absurd HA.out (by simp [bits_Narrow.j1])
                | succ kj10 =>
                  have H := HA.out
                  clear HA
                  simp only [bits_Narrow.j1] at H
                  replace H := Option.bind_eq_some_iff.mp H
                  obtain ⟨t134, A140, H⟩ := H
                  replace H : (if (floatToFloatBits .f64 t134 .f32).isSome = true then ((bits_grown.f (((floatToFloatBits .f64 t134 .f32).getD 0 : Nat) : Int)).bind fun t135 => ((math_IsInf.f t134 1).bind fun t136 => (if t136 = true then (some ((Go.bits .or .u32 (((floatToFloatBits .f64 t134 .f32).getD 0 : Nat) : Int) x6_10 : Int).toNat, 0)) else (if x7_10 = 1 then (if (FloatKind.f64.format.order t135 t134 == some .gt) = true then (bits_Narrow.j2 kj10 t134 a1 x6_10 x7_10 (((floatToFloatBits .f64 t134 .f32).getD 0 : Nat) : Int) t135 true) else (bits_Narrow.j2 kj10 t134 a1 x6_10 x7_10 (((floatToFloatBits .f64 t134 .f32).getD 0 : Nat) : Int) t135 ((((floatToFloatBits .f64 t134 .f32).getD 0 : Nat) : Int) == 2139095040))) else (bits_Narrow.j2 kj10 t134 a1 x6_10 x7_10 (((floatToFloatBits .f64 t134 .f32).getD 0 : Nat) : Int) t135 false))))) else (none)) = some (r1, r2) := H
                  have A14 := Aside0.mk A140
                  clear A140
                  by_cases c15 : (floatToFloatBits .f64 t134 .f32).isSome = true
                  · rw [if_pos c15] at H
                    have c15b0 : (floatToFloatBits .f64 t134 .f32).isSome = true := c15
                    clear c15
                    replace H := Option.bind_eq_some_iff.mp H
                    obtain ⟨t135, A160, H⟩ := H
                    replace H : ((math_IsInf.f t134 1).bind fun t136 => (if t136 = true then (some ((Go.bits .or .u32 (((floatToFloatBits .f64 t134 .f32).getD 0 : Nat) : Int) x6_10 : Int).toNat, 0)) else (if x7_10 = 1 then (if (FloatKind.f64.format.order t135 t134 == some .gt) = true then (bits_Narrow.j2 kj10 t134 a1 x6_10 x7_10 (((floatToFloatBits .f64 t134 .f32).getD 0 : Nat) : Int) t135 true) else (bits_Narrow.j2 kj10 t134 a1 x6_10 x7_10 (((floatToFloatBits .f64 t134 .f32).getD 0 : Nat) : Int) t135 ((((floatToFloatBits .f64 t134 .f32).getD 0 : Nat) : Int) == 2139095040))) else (bits_Narrow.j2 kj10 t134 a1 x6_10 x7_10 (((floatToFloatBits .f64 t134 .f32).getD 0 : Nat) : Int) t135 false)))) = some (r1, r2) := H
                    have A16 := Aside0.mk A160
                    clear A160
                    replace H := Option.bind_eq_some_iff.mp H
                    obtain ⟨t136, A170, H⟩ := H
                    replace H : (if t136 = true then (some ((Go.bits .or .u32 (((floatToFloatBits .f64 t134 .f32).getD 0 : Nat) : Int) x6_10 : Int).toNat, 0)) else (if x7_10 = 1 then (if (FloatKind.f64.format.order t135 t134 == some .gt) = true then (bits_Narrow.j2 kj10 t134 a1 x6_10 x7_10 (((floatToFloatBits .f64 t134 .f32).getD 0 : Nat) : Int) t135 true) else (bits_Narrow.j2 kj10 t134 a1 x6_10 x7_10 (((floatToFloatBits .f64 t134 .f32).getD 0 : Nat) : Int) t135 ((((floatToFloatBits .f64 t134 .f32).getD 0 : Nat) : Int) == 2139095040))) else (bits_Narrow.j2 kj10 t134 a1 x6_10 x7_10 (((floatToFloatBits .f64 t134 .f32).getD 0 : Nat) : Int) t135 false))) = some (r1, r2) := H
                    have A17 := Aside0.mk A170
                    clear A170
                    by_cases c18 : t136 = true
                    · subst c18
                      have H1 : (some ((Go.bits .or .u32 (((floatToFloatBits .f64 t134 .f32).getD 0 : Nat) : Int) x6_10 : Int).toNat, 0)) = some (r1, r2) := by rw [if_pos rfl] at H; exact H
                      clear H
                      have H := H1
                      clear H1
                      simp only [Option.some.injEq, Prod.mk.injEq] at H
                      obtain ⟨rfl, rfl⟩ := H
                      go_wp2_with (first | (go_at_call 45; (with_reducible refine (math_Abs.calls a0 t134 _ A14.out).mono ?_); rintro e w' ⟨rfl, ⟨nd, rfl⟩⟩; (try first | exact ⟨rfl, _, World.drewN_drewN _ _ _⟩ | exact ⟨rfl, _, Eq.trans (World.drewN_drewN _ _ _) (congrArg (World.drewN _) (Nat.add_assoc _ _ _))⟩)) | (go_at_call 56; (with_reducible refine (bits_grown.calls (((floatToFloatBits .f64 t134 .f32).getD 0 : Nat) : Int) t135 _ A16.out).mono ?_); rintro e w' ⟨rfl, ⟨nd, rfl⟩⟩; (try first | exact ⟨rfl, _, World.drewN_drewN _ _ _⟩ | exact ⟨rfl, _, Eq.trans (World.drewN_drewN _ _ _) (congrArg (World.drewN _) (Nat.add_assoc _ _ _))⟩)) | (go_at_call 44; (with_reducible refine (math_IsInf.calls t134 1 true _ A17.out).mono ?_); rintro e w' ⟨rfl, ⟨nd, rfl⟩⟩; (try first | exact ⟨rfl, _, World.drewN_drewN _ _ _⟩ | exact ⟨rfl, _, Eq.trans (World.drewN_drewN _ _ _) (congrArg (World.drewN _) (Nat.add_assoc _ _ _))⟩)))
                      repeat (go_quiet (first | (go_at_call 45; (with_reducible refine (math_Abs.calls a0 t134 _ A14.out).mono ?_); rintro e w' ⟨rfl, ⟨nd, rfl⟩⟩; (try first | exact ⟨rfl, _, World.drewN_drewN _ _ _⟩ | exact ⟨rfl, _, Eq.trans (World.drewN_drewN _ _ _) (congrArg (World.drewN _) (Nat.add_assoc _ _ _))⟩)) | (go_at_call 56; (with_reducible refine (bits_grown.calls (((floatToFloatBits .f64 t134 .f32).getD 0 : Nat) : Int) t135 _ A16.out).mono ?_); rintro e w' ⟨rfl, ⟨nd, rfl⟩⟩; (try first | exact ⟨rfl, _, World.drewN_drewN _ _ _⟩ | exact ⟨rfl, _, Eq.trans (World.drewN_drewN _ _ _) (congrArg (World.drewN _) (Nat.add_assoc _ _ _))⟩)) | (go_at_call 44; (with_reducible refine (math_IsInf.calls t134 1 true _ A17.out).mono ?_); rintro e w' ⟨rfl, ⟨nd, rfl⟩⟩; (try first | exact ⟨rfl, _, World.drewN_drewN _ _ _⟩ | exact ⟨rfl, _, Eq.trans (World.drewN_drewN _ _ _) (congrArg (World.drewN _) (Nat.add_assoc _ _ _))⟩))); try go_wp2_with (first | (go_at_call 45; (with_reducible refine (math_Abs.calls a0 t134 _ A14.out).mono ?_); rintro e w' ⟨rfl, ⟨nd, rfl⟩⟩; (try first | exact ⟨rfl, _, World.drewN_drewN _ _ _⟩ | exact ⟨rfl, _, Eq.trans (World.drewN_drewN _ _ _) (congrArg (World.drewN _) (Nat.add_assoc _ _ _))⟩)) | (go_at_call 56; (with_reducible refine (bits_grown.calls (((floatToFloatBits .f64 t134 .f32).getD 0 : Nat) : Int) t135 _ A16.out).mono ?_); rintro e w' ⟨rfl, ⟨nd, rfl⟩⟩; (try first | exact ⟨rfl, _, World.drewN_drewN _ _ _⟩ | exact ⟨rfl, _, Eq.trans (World.drewN_drewN _ _ _) (congrArg (World.drewN _) (Nat.add_assoc _ _ _))⟩)) | (go_at_call 44; (with_reducible refine (math_IsInf.calls t134 1 true _ A17.out).mono ?_); rintro e w' ⟨rfl, ⟨nd, rfl⟩⟩; (try first | exact ⟨rfl, _, World.drewN_drewN _ _ _⟩ | exact ⟨rfl, _, Eq.trans (World.drewN_drewN _ _ _) (congrArg (World.drewN _) (Nat.add_assoc _ _ _))⟩))))
                      go_ret2
                      exact ⟨by first | rfl | (simp; done) | (simp [*]; done), by repeat (first | exact Drawn0.refl _ | apply Drawn0.step)⟩
                    · replace c18 := Bool.eq_false_iff.mpr c18
                      subst c18
                      have H1 : (if x7_10 = 1 then (if (FloatKind.f64.format.order t135 t134 == some .gt) = true then (bits_Narrow.j2 kj10 t134 a1 x6_10 x7_10 (((floatToFloatBits .f64 t134 .f32).getD 0 : Nat) : Int) t135 true) else (bits_Narrow.j2 kj10 t134 a1 x6_10 x7_10 (((floatToFloatBits .f64 t134 .f32).getD 0 : Nat) : Int) t135 ((((floatToFloatBits .f64 t134 .f32).getD 0 : Nat) : Int) == 2139095040))) else (bits_Narrow.j2 kj10 t134 a1 x6_10 x7_10 (((floatToFloatBits .f64 t134 .f32).getD 0 : Nat) : Int) t135 false)) = some (r1, r2) := by rw [if_neg (show ¬ (false = true) by decide)] at H; exact H
                      clear H
                      have H := H1
                      clear H1
                      have HC19 := Aside0.mk H
                      clear H
                      go_upto_region 12 with (first | (go_at_call 45; (with_reducible refine (math_Abs.calls a0 t134 _ A14.out).mono ?_); rintro e w' ⟨rfl, ⟨nd, rfl⟩⟩; (try first | exact ⟨rfl, _, World.drewN_drewN _ _ _⟩ | exact ⟨rfl, _, Eq.trans (World.drewN_drewN _ _ _) (congrArg (World.drewN _) (Nat.add_assoc _ _ _))⟩)) | (go_at_call 56; (with_reducible refine (bits_grown.calls (((floatToFloatBits .f64 t134 .f32).getD 0 : Nat) : Int) t135 _ A16.out).mono ?_); rintro e w' ⟨rfl, ⟨nd, rfl⟩⟩; (try first | exact ⟨rfl, _, World.drewN_drewN _ _ _⟩ | exact ⟨rfl, _, Eq.trans (World.drewN_drewN _ _ _) (congrArg (World.drewN _) (Nat.add_assoc _ _ _))⟩)) | (go_at_call 44; (with_reducible refine (math_IsInf.calls t134 1 false _ A17.out).mono ?_); rintro e w' ⟨rfl, ⟨nd, rfl⟩⟩; (try first | exact ⟨rfl, _, World.drewN_drewN _ _ _⟩ | exact ⟨rfl, _, Eq.trans (World.drewN_drewN _ _ _) (congrArg (World.drewN _) (Nat.add_assoc _ _ _))⟩)))
                      repeat (go_quiet (first | (go_at_call 45; (with_reducible refine (math_Abs.calls a0 t134 _ A14.out).mono ?_); rintro e w' ⟨rfl, ⟨nd, rfl⟩⟩; (try first | exact ⟨rfl, _, World.drewN_drewN _ _ _⟩ | exact ⟨rfl, _, Eq.trans (World.drewN_drewN _ _ _) (congrArg (World.drewN _) (Nat.add_assoc _ _ _))⟩)) | (go_at_call 56; (with_reducible refine (bits_grown.calls (((floatToFloatBits .f64 t134 .f32).getD 0 : Nat) : Int) t135 _ A16.out).mono ?_); rintro e w' ⟨rfl, ⟨nd, rfl⟩⟩; (try first | exact ⟨rfl, _, World.drewN_drewN _ _ _⟩ | exact ⟨rfl, _, Eq.trans (World.drewN_drewN _ _ _) (congrArg (World.drewN _) (Nat.add_assoc _ _ _))⟩)) | (go_at_call 44; (with_reducible refine (math_IsInf.calls t134 1 false _ A17.out).mono ?_); rintro e w' ⟨rfl, ⟨nd, rfl⟩⟩; (try first | exact ⟨rfl, _, World.drewN_drewN _ _ _⟩ | exact ⟨rfl, _, Eq.trans (World.drewN_drewN _ _ _) (congrArg (World.drewN _) (Nat.add_assoc _ _ _))⟩))); go_upto_region 12 with (first | (go_at_call 45; (with_reducible refine (math_Abs.calls a0 t134 _ A14.out).mono ?_); rintro e w' ⟨rfl, ⟨nd, rfl⟩⟩; (try first | exact ⟨rfl, _, World.drewN_drewN _ _ _⟩ | exact ⟨rfl, _, Eq.trans (World.drewN_drewN _ _ _) (congrArg (World.drewN _) (Nat.add_assoc _ _ _))⟩)) | (go_at_call 56; (with_reducible refine (bits_grown.calls (((floatToFloatBits .f64 t134 .f32).getD 0 : Nat) : Int) t135 _ A16.out).mono ?_); rintro e w' ⟨rfl, ⟨nd, rfl⟩⟩; (try first | exact ⟨rfl, _, World.drewN_drewN _ _ _⟩ | exact ⟨rfl, _, Eq.trans (World.drewN_drewN _ _ _) (congrArg (World.drewN _) (Nat.add_assoc _ _ _))⟩)) | (go_at_call 44; (with_reducible refine (math_IsInf.calls t134 1 false _ A17.out).mono ?_); rintro e w' ⟨rfl, ⟨nd, rfl⟩⟩; (try first | exact ⟨rfl, _, World.drewN_drewN _ _ _⟩ | exact ⟨rfl, _, Eq.trans (World.drewN_drewN _ _ _) (congrArg (World.drewN _) (Nat.add_assoc _ _ _))⟩))))
                      (try simp only [Act.put, List.setIfInBounds_toArray, List.set_cons_zero, List.set_cons_succ])
                      go_cut [41] (fun v41 wc => ∃ (kq : Nat) (x41_18 : Bool), v41 = .bool x41_18 ∧ Aside0 (bits_Narrow.j2 kq t134 a1 x6_10 x7_10 (((floatToFloatBits .f64 t134 .f32).getD 0 : Nat) : Int) t135 x41_18 = some (r1, r2)) ∧ Aside0 (kq ≤ kj10) ∧ Drawn0 w wc)
                      case first =>
                        have H := HC19.out
                        clear HC19
                        by_cases c20 : x7_10 = 1
                        · rw [if_pos c20] at H
                          have c20b0 : (x7_10 == 1) = true := beq_iff_eq.mpr c20
                          have c20b1 : (x7_10 != 1) = false := bne_eq_false_iff_eq.mpr c20
                          clear c20
                          (first | rw [c20b0] | (simp only [i64_w, i32_w]; rw [c20b0]) | skip)
                          by_cases c21 : (FloatKind.f64.format.order t135 t134 == some .gt) = true
                          · rw [if_pos c21] at H
                            have c21b0 : (FloatKind.f64.format.order t135 t134 == some .gt) = true := c21
                            clear c21
                            have H' := Aside0.mk H
                            clear H
                            go_wp2
                            repeat (go_quiet (fail); try go_wp2)
                            go_meet
                            case rel => exact ⟨_, (true), (by first | rfl | (simp; done) | (simp [*]; done)), H', ⟨by have := HJ2.out; have := HJ10.out; first | omega | exact Nat.le_refl _⟩, by repeat (first | exact Drawn0.refl _ | apply Drawn0.step)⟩
                          · rw [if_neg c21] at H
                            have c21b0 : (FloatKind.f64.format.order t135 t134 == some .gt) = false := by simpa using c21
                            clear c21
                            have H' := Aside0.mk H
                            clear H
                            go_wp2
                            repeat (go_quiet (fail); try go_wp2)
                            go_meet
                            case rel => exact ⟨_, (((((floatToFloatBits .f64 t134 .f32).getD 0 : Nat) : Int) == 2139095040)), (by first | rfl | (simp; done) | (simp [*]; done)), H', ⟨by have := HJ2.out; have := HJ10.out; first | omega | exact Nat.le_refl _⟩, by repeat (first | exact Drawn0.refl _ | apply Drawn0.step)⟩
                        · rw [if_neg c20] at H
                          have c20b0 : (x7_10 == 1) = false := beq_eq_false_iff_ne.mpr c20
                          have c20b1 : (x7_10 != 1) = true := bne_iff_ne.mpr c20
                          (first | rw [c20b0] | (simp only [i64_w, i32_w]; rw [c20b0]) | skip)
                          have H' := Aside0.mk H
                          clear H
                          go_wp2
                          repeat (go_quiet (fail); try go_wp2)
                          go_meet
                          case rel => exact ⟨_, (false), (by first | rfl | (simp; done) | (simp [*]; done)), H', ⟨by have := HJ2.out; have := HJ10.out; first | omega | exact Nat.le_refl _⟩, by repeat (first | exact Drawn0.refl _ | apply Drawn0.step)⟩
                      case rest =>
                        clear HC19
                        try clear c1
                        try clear c2
                        try clear p2
                        try clear c4
                        try clear c4b0
                        try clear c5
                        try clear c6
                        try clear c6b0
                        try clear c7
                        try clear c7b0
                        try clear c8
                        try clear c8b0
                        try clear c10
                        try clear c12
                        try clear c15
                        try clear c15b0
                        try clear c18
                        try clear c20
                        try clear c20b0
                        try clear c20b1
                        try clear c21
                        try clear c21b0
                        try clear p2
                        obtain ⟨kq, x41_18, rfl, HA, HJ18, ⟨mc18, rfl⟩⟩ := hcut
                        cases kq with
                        | zero => exact absurd HA.out (by simp [bits_Narrow.j2])
                        | succ kj18 =>
                          have H := HA.out
                          clear HA
                          simp only [bits_Narrow.j2] at H
                          by_cases c22 : x41_18 = true
                          · subst c22
                            have H1 : (some ((Go.bits .or .u32 (((((floatToFloatBits .f64 t134 .f32).getD 0 : Nat) : Int) - 1) % 4294967296) x6_10 : Int).toNat, 0)) = some (r1, r2) := by rw [if_pos rfl] at H; exact H
                            clear H
                            have H := H1
                            clear H1
                            simp only [Option.some.injEq, Prod.mk.injEq] at H
                            obtain ⟨rfl, rfl⟩ := H
                            go_wp2
                            repeat (go_quiet (fail); try go_wp2)
                            go_ret2
                            exact ⟨by first | rfl | (simp; done) | (simp [*]; done), by repeat (first | exact Drawn0.refl _ | apply Drawn0.step)⟩
                          · replace c22 := Bool.eq_false_iff.mpr c22
                            subst c22
                            have H1 : (if (((floatToFloatBits .f64 t134 .f32).getD 0 : Nat) : Int) = 2139095040 then (some ((Go.bits .or .u32 (((floatToFloatBits .f64 t134 .f32).getD 0 : Nat) : Int) x6_10 : Int).toNat, 0)) else (if x7_10 = 2 then (bits_Narrow.j3 kj18 t134 a1 x6_10 (((floatToFloatBits .f64 t134 .f32).getD 0 : Nat) : Int) t135 (FloatKind.f64.format.order t135 t134 == some .lt)) else (bits_Narrow.j3 kj18 t134 a1 x6_10 (((floatToFloatBits .f64 t134 .f32).getD 0 : Nat) : Int) t135 false))) = some (r1, r2) := by rw [if_neg (show ¬ (false = true) by decide)] at H; exact H
                            clear H
                            have H := H1
                            clear H1
                            by_cases c23 : (((floatToFloatBits .f64 t134 .f32).getD 0 : Nat) : Int) = 2139095040
                            · rw [if_pos c23] at H
                              have c23b0 : ((((floatToFloatBits .f64 t134 .f32).getD 0 : Nat) : Int) == 2139095040) = true := beq_iff_eq.mpr c23
                              have c23b1 : ((((floatToFloatBits .f64 t134 .f32).getD 0 : Nat) : Int) != 2139095040) = false := bne_eq_false_iff_eq.mpr c23
                              clear c23
                              simp only [Option.some.injEq, Prod.mk.injEq] at H
                              obtain ⟨rfl, rfl⟩ := H
                              go_wp2
                              repeat (go_quiet (fail); try go_wp2)
                              go_ret2
                              exact ⟨by first | rfl | (simp; done) | (simp [*]; done), by repeat (first | exact Drawn0.refl _ | apply Drawn0.step)⟩
                            · rw [if_neg c23] at H
                              have c23b0 : ((((floatToFloatBits .f64 t134 .f32).getD 0 : Nat) : Int) == 2139095040) = false := beq_eq_false_iff_ne.mpr c23
                              have c23b1 : ((((floatToFloatBits .f64 t134 .f32).getD 0 : Nat) : Int) != 2139095040) = true := bne_iff_ne.mpr c23
                              have HC24 := Aside0.mk H
                              clear H
                              go_upto_region 15 with (fail)
                              repeat (go_quiet (fail); go_upto_region 15 with (fail))
                              go_cut [58] (fun v58 wc => ∃ (kq : Nat) (x58_23 : Bool), v58 = .bool x58_23 ∧ Aside0 (bits_Narrow.j3 kq t134 a1 x6_10 (((floatToFloatBits .f64 t134 .f32).getD 0 : Nat) : Int) t135 x58_23 = some (r1, r2)) ∧ Aside0 (kq ≤ kj18) ∧ Drawn0 w wc)
                              case first =>
                                have H := HC24.out
                                clear HC24
                                by_cases c25 : x7_10 = 2
                                · rw [if_pos c25] at H
                                  have c25b0 : (x7_10 == 2) = true := beq_iff_eq.mpr c25
                                  have c25b1 : (x7_10 != 2) = false := bne_eq_false_iff_eq.mpr c25
                                  clear c25
                                  (first | rw [c25b0] | (simp only [i64_w, i32_w]; rw [c25b0]) | skip)
                                  have H' := Aside0.mk H
                                  clear H
                                  go_wp2
                                  repeat (go_quiet (fail); try go_wp2)
                                  go_meet
                                  case rel => exact ⟨_, ((FloatKind.f64.format.order t135 t134 == some .lt)), (by first | rfl | (simp; done) | (simp [*]; done)), H', ⟨by have := HJ2.out; have := HJ10.out; have := HJ18.out; first | omega | exact Nat.le_refl _⟩, by repeat (first | exact Drawn0.refl _ | apply Drawn0.step)⟩
                                · rw [if_neg c25] at H
                                  have c25b0 : (x7_10 == 2) = false := beq_eq_false_iff_ne.mpr c25
                                  have c25b1 : (x7_10 != 2) = true := bne_iff_ne.mpr c25
                                  (first | rw [c25b0] | (simp only [i64_w, i32_w]; rw [c25b0]) | skip)
                                  have H' := Aside0.mk H
                                  clear H
                                  go_wp2
                                  repeat (go_quiet (fail); try go_wp2)
                                  go_meet
                                  case rel => exact ⟨_, (false), (by first | rfl | (simp; done) | (simp [*]; done)), H', ⟨by have := HJ2.out; have := HJ10.out; have := HJ18.out; first | omega | exact Nat.le_refl _⟩, by repeat (first | exact Drawn0.refl _ | apply Drawn0.step)⟩
                              case rest =>
                                clear HC24
                                try clear c1
                                try clear c2
                                try clear p2
                                try clear c4
                                try clear c4b0
                                try clear c5
                                try clear c6
                                try clear c6b0
                                try clear c7
                                try clear c7b0
                                try clear c8
                                try clear c8b0
                                try clear c10
                                try clear c12
                                try clear c15
                                try clear c15b0
                                try clear c18
                                try clear c20
                                try clear c20b0
                                try clear c20b1
                                try clear c21
                                try clear c21b0
                                try clear c22
                                try clear c23
                                try clear c23b0
                                try clear c23b1
                                try clear c24
                                try clear c25
                                try clear c25b0
                                try clear c25b1
                                try clear p2
                                obtain ⟨kq, x58_23, rfl, HA, HJ23, ⟨mc23, rfl⟩⟩ := hcut
                                cases kq with
                                | zero => exact absurd HA.out (by simp [bits_Narrow.j3])
                                | succ kj23 =>
                                  have H := HA.out
                                  clear HA
                                  simp only [bits_Narrow.j3] at H
                                  by_cases c26 : x58_23 = true
                                  · subst c26
                                    have H1 : (some ((Go.bits .or .u32 (((((floatToFloatBits .f64 t134 .f32).getD 0 : Nat) : Int) + 1) % 4294967296) x6_10 : Int).toNat, 0)) = some (r1, r2) := by rw [if_pos rfl] at H; exact H
                                    clear H
                                    have H := H1
                                    clear H1
                                    simp only [Option.some.injEq, Prod.mk.injEq] at H
                                    obtain ⟨rfl, rfl⟩ := H
                                    go_wp2
                                    repeat (go_quiet (fail); try go_wp2)
                                    go_ret2
                                    exact ⟨by first | rfl | (simp; done) | (simp [*]; done), by repeat (first | exact Drawn0.refl _ | apply Drawn0.step)⟩
                                  · replace c26 := Bool.eq_false_iff.mpr c26
                                    subst c26
                                    have H1 : (if a1 = 4 then (if (FloatKind.f64.format.order t135 t134 == some .lt) = true then (if (FloatKind.f64.format.sub t134 t135).isSome = true then ((bits_grown.f (((((floatToFloatBits .f64 t134 .f32).getD 0 : Nat) : Int) + 1) % 4294967296)).bind fun t137 => (if (FloatKind.f64.format.sub t137 t134).isSome = true then (if (FloatKind.f64.format.order ((FloatKind.f64.format.sub t134 t135).getD 0) ((FloatKind.f64.format.sub t137 t134).getD 0) == some .eq) = true then (some ((Go.bits .or .u32 (((((floatToFloatBits .f64 t134 .f32).getD 0 : Nat) : Int) + 1) % 4294967296) x6_10 : Int).toNat, 0)) else (some ((Go.bits .or .u32 (((floatToFloatBits .f64 t134 .f32).getD 0 : Nat) : Int) x6_10 : Int).toNat, 0))) else (none))) else (none)) else (some ((Go.bits .or .u32 (((floatToFloatBits .f64 t134 .f32).getD 0 : Nat) : Int) x6_10 : Int).toNat, 0))) else (some ((Go.bits .or .u32 (((floatToFloatBits .f64 t134 .f32).getD 0 : Nat) : Int) x6_10 : Int).toNat, 0))) = some (r1, r2) := by rw [if_neg (show ¬ (false = true) by decide)] at H; exact H
                                    clear H
                                    have H := H1
                                    clear H1
                                    by_cases c27 : a1 = 4
                                    · rw [if_pos c27] at H
                                      have c27b0 : (a1 == 4) = true := beq_iff_eq.mpr c27
                                      have c27b1 : (a1 != 4) = false := bne_eq_false_iff_eq.mpr c27
                                      clear c27
                                      by_cases c28 : (FloatKind.f64.format.order t135 t134 == some .lt) = true
                                      · rw [if_pos c28] at H
                                        have c28b0 : (FloatKind.f64.format.order t135 t134 == some .lt) = true := c28
                                        clear c28
                                        by_cases c29 : (FloatKind.f64.format.sub t134 t135).isSome = true
                                        · rw [if_pos c29] at H
                                          have c29b0 : (FloatKind.f64.format.sub t134 t135).isSome = true := c29
                                          clear c29
                                          replace H := Option.bind_eq_some_iff.mp H
                                          obtain ⟨t137, A300, H⟩ := H
                                          replace H : (if (FloatKind.f64.format.sub t137 t134).isSome = true then (if (FloatKind.f64.format.order ((FloatKind.f64.format.sub t134 t135).getD 0) ((FloatKind.f64.format.sub t137 t134).getD 0) == some .eq) = true then (some ((Go.bits .or .u32 (((((floatToFloatBits .f64 t134 .f32).getD 0 : Nat) : Int) + 1) % 4294967296) x6_10 : Int).toNat, 0)) else (some ((Go.bits .or .u32 (((floatToFloatBits .f64 t134 .f32).getD 0 : Nat) : Int) x6_10 : Int).toNat, 0))) else (none)) = some (r1, r2) := H
                                          have A30 := Aside0.mk A300
                                          clear A300
                                          by_cases c31 : (FloatKind.f64.format.sub t137 t134).isSome = true
                                          · rw [if_pos c31] at H
                                            have c31b0 : (FloatKind.f64.format.sub t137 t134).isSome = true := c31
                                            clear c31
                                            by_cases c32 : (FloatKind.f64.format.order ((FloatKind.f64.format.sub t134 t135).getD 0) ((FloatKind.f64.format.sub t137 t134).getD 0) == some .eq) = true
                                            · rw [if_pos c32] at H
                                              have c32b0 : (FloatKind.f64.format.order ((FloatKind.f64.format.sub t134 t135).getD 0) ((FloatKind.f64.format.sub t137 t134).getD 0) == some .eq) = true := c32
                                              clear c32
                                              simp only [Option.some.injEq, Prod.mk.injEq] at H
                                              obtain ⟨rfl, rfl⟩ := H
                                              go_wp2_with (first | (go_at_call 56; (with_reducible refine (bits_grown.calls (((((floatToFloatBits .f64 t134 .f32).getD 0 : Nat) : Int) + 1) % 4294967296) t137 _ A30.out).mono ?_); rintro e w' ⟨rfl, ⟨nd, rfl⟩⟩; (try first | exact ⟨rfl, _, World.drewN_drewN _ _ _⟩ | exact ⟨rfl, _, Eq.trans (World.drewN_drewN _ _ _) (congrArg (World.drewN _) (Nat.add_assoc _ _ _))⟩)))
                                              repeat (go_quiet (first | (go_at_call 56; (with_reducible refine (bits_grown.calls (((((floatToFloatBits .f64 t134 .f32).getD 0 : Nat) : Int) + 1) % 4294967296) t137 _ A30.out).mono ?_); rintro e w' ⟨rfl, ⟨nd, rfl⟩⟩; (try first | exact ⟨rfl, _, World.drewN_drewN _ _ _⟩ | exact ⟨rfl, _, Eq.trans (World.drewN_drewN _ _ _) (congrArg (World.drewN _) (Nat.add_assoc _ _ _))⟩))); try go_wp2_with (first | (go_at_call 56; (with_reducible refine (bits_grown.calls (((((floatToFloatBits .f64 t134 .f32).getD 0 : Nat) : Int) + 1) % 4294967296) t137 _ A30.out).mono ?_); rintro e w' ⟨rfl, ⟨nd, rfl⟩⟩; (try first | exact ⟨rfl, _, World.drewN_drewN _ _ _⟩ | exact ⟨rfl, _, Eq.trans (World.drewN_drewN _ _ _) (congrArg (World.drewN _) (Nat.add_assoc _ _ _))⟩))))
                                              go_ret2
                                              exact ⟨by first | rfl | (simp; done) | (simp [*]; done), by repeat (first | exact Drawn0.refl _ | apply Drawn0.step)⟩
                                            · rw [if_neg c32] at H
                                              have c32b0 : (FloatKind.f64.format.order ((FloatKind.f64.format.sub t134 t135).getD 0) ((FloatKind.f64.format.sub t137 t134).getD 0) == some .eq) = false := by simpa using c32
                                              clear c32
                                              simp only [Option.some.injEq, Prod.mk.injEq] at H
                                              obtain ⟨rfl, rfl⟩ := H
                                              go_wp2_with (first | (go_at_call 56; (with_reducible refine (bits_grown.calls (((((floatToFloatBits .f64 t134 .f32).getD 0 : Nat) : Int) + 1) % 4294967296) t137 _ A30.out).mono ?_); rintro e w' ⟨rfl, ⟨nd, rfl⟩⟩; (try first | exact ⟨rfl, _, World.drewN_drewN _ _ _⟩ | exact ⟨rfl, _, Eq.trans (World.drewN_drewN _ _ _) (congrArg (World.drewN _) (Nat.add_assoc _ _ _))⟩)))
                                              repeat (go_quiet (first | (go_at_call 56; (with_reducible refine (bits_grown.calls (((((floatToFloatBits .f64 t134 .f32).getD 0 : Nat) : Int) + 1) % 4294967296) t137 _ A30.out).mono ?_); rintro e w' ⟨rfl, ⟨nd, rfl⟩⟩; (try first | exact ⟨rfl, _, World.drewN_drewN _ _ _⟩ | exact ⟨rfl, _, Eq.trans (World.drewN_drewN _ _ _) (congrArg (World.drewN _) (Nat.add_assoc _ _ _))⟩))); try go_wp2_with (first | (go_at_call 56; (with_reducible refine (bits_grown.calls (((((floatToFloatBits .f64 t134 .f32).getD 0 : Nat) : Int) + 1) % 4294967296) t137 _ A30.out).mono ?_); rintro e w' ⟨rfl, ⟨nd, rfl⟩⟩; (try first | exact ⟨rfl, _, World.drewN_drewN _ _ _⟩ | exact ⟨rfl, _, Eq.trans (World.drewN_drewN _ _ _) (congrArg (World.drewN _) (Nat.add_assoc _ _ _))⟩))))
                                              go_ret2
                                              exact ⟨by first | rfl | (simp; done) | (simp [*]; done), by repeat (first | exact Drawn0.refl _ | apply Drawn0.step)⟩
                                          · rw [if_neg c31] at H
                                            exact absurd H (by simp)
                                        · rw [if_neg c29] at H
                                          exact absurd H (by simp)
                                      · rw [if_neg c28] at H
                                        have c28b0 : (FloatKind.f64.format.order t135 t134 == some .lt) = false := by simpa using c28
                                        clear c28
                                        simp only [Option.some.injEq, Prod.mk.injEq] at H
                                        obtain ⟨rfl, rfl⟩ := H
                                        go_wp2
                                        repeat (go_quiet (fail); try go_wp2)
                                        go_ret2
                                        exact ⟨by first | rfl | (simp; done) | (simp [*]; done), by repeat (first | exact Drawn0.refl _ | apply Drawn0.step)⟩
                                    · rw [if_neg c27] at H
                                      have c27b0 : (a1 == 4) = false := beq_eq_false_iff_ne.mpr c27
                                      have c27b1 : (a1 != 4) = true := bne_iff_ne.mpr c27
                                      simp only [Option.some.injEq, Prod.mk.injEq] at H
                                      obtain ⟨rfl, rfl⟩ := H
                                      go_wp2
                                      repeat (go_quiet (fail); try go_wp2)
                                      go_ret2
                                      exact ⟨by first | rfl | (simp; done) | (simp [*]; done), by repeat (first | exact Drawn0.refl _ | apply Drawn0.step)⟩
                  · rw [if_neg c15] at H
                    exact absurd H (by simp)
            · rw [if_neg c8] at H
              exact absurd H (by simp)
          · rw [if_neg c7] at H
            exact absurd H (by simp)

end Go.Proofs.YtjkcgelemidapaaDoor.Pr
