-- written by this session's own program (wip/fprint.py), which widens the kit's print by floats
import Derived.Test.YtjkcgelemidapaaDoorPr0
namespace Go.Proofs.YtjkcgelemidapaaDoor.Pr
open Go.RowKit Go.Proofs.YtjkcgelemidapaaDoorW.PrintWords Go.Proofs.YtjkcgelemidapaaDoorW.PrintLast Go.Proofs.YtjkcgelemidapaaDoorW.PrintMore
attribute [local go_sem] max2_int min2_int max_two min_two max_three min_three max_four min_four   -- for this text's walks alone
set_option linter.unusedVariables false
set_option linter.unusedSimpArgs false

/-! ### steelyardref01_parts_L: function 60 -/
def steelyardref01_parts_L.f (a0 : Int) : Option (Bool × Int × Int × Int) := if (wrap64 (Int.tmod (a0 / 4503599627370496) 2048)) = 2047 then (if (Int.tmod a0 4503599627370496) > 0 then (some (false, 4, 0, 0)) else (some (((Int.tmod (a0 / 9223372036854775808) 2) == 1), 3, 0, 0))) else (if (wrap64 (Int.tmod (a0 / 4503599627370496) 2048)) > 0 then (some (((Int.tmod (a0 / 9223372036854775808) 2) == 1), 2, wrap64 ((wrap64 ((-1074) + (wrap64 (Int.tmod (a0 / 4503599627370496) 2048)))) - 1), IntKind.u64.wrap ((Int.tmod a0 4503599627370496) + 4503599627370496))) else (if (Int.tmod a0 4503599627370496) > 0 then (some (((Int.tmod (a0 / 9223372036854775808) 2) == 1), 1, (-1074), Int.tmod a0 4503599627370496)) else (some (((Int.tmod (a0 / 9223372036854775808) 2) == 1), 0, (-1074), Int.tmod a0 4503599627370496))))
set_option maxHeartbeats 3000000 in
set_option maxRecDepth 100000 in
theorem steelyardref01_parts_L.calls (a0 : Int) (r1 : Bool) (r2 : Int) (r3 : Int) (r4 : Int) (w : World) (h : steelyardref01_parts_L.f a0 = some (r1, r2, r3, r4)) :
    Calls Tryd.prog 60 #[.int .u64 a0, .int .i64 11, .int .i64 52] w fun e w' => e = .returned (.agg #[.bool r1, .int .i64 r2, .int .i64 r3, .int .u64 r4]) ∧ Below w.heap.size w w' := by
  have hu28 := Tryd.underlying28
  have HB := Aside0.mk (Below.refl w.heap.size w)
  have H : (if (wrap64 (Int.tmod (a0 / 4503599627370496) 2048)) = 2047 then (if (Int.tmod a0 4503599627370496) > 0 then (some (false, 4, 0, 0)) else (some (((Int.tmod (a0 / 9223372036854775808) 2) == 1), 3, 0, 0))) else (if (wrap64 (Int.tmod (a0 / 4503599627370496) 2048)) > 0 then (some (((Int.tmod (a0 / 9223372036854775808) 2) == 1), 2, wrap64 ((wrap64 ((-1074) + (wrap64 (Int.tmod (a0 / 4503599627370496) 2048)))) - 1), IntKind.u64.wrap ((Int.tmod a0 4503599627370496) + 4503599627370496))) else (if (Int.tmod a0 4503599627370496) > 0 then (some (((Int.tmod (a0 / 9223372036854775808) 2) == 1), 1, (-1074), Int.tmod a0 4503599627370496)) else (some (((Int.tmod (a0 / 9223372036854775808) 2) == 1), 0, (-1074), Int.tmod a0 4503599627370496))))) = some (r1, r2, r3, r4) := h
  clear h
  by_cases c4 : (wrap64 (Int.tmod (a0 / 4503599627370496) 2048)) = 2047
  · rw [if_pos c4] at H
    have c4b0 : ((wrap64 (Int.tmod (a0 / 4503599627370496) 2048)) == 2047) = true := beq_iff_eq.mpr c4
    have c4b1 : ((wrap64 (Int.tmod (a0 / 4503599627370496) 2048)) != 2047) = false := bne_eq_false_iff_eq.mpr c4
    clear c4
    by_cases c5 : (Int.tmod a0 4503599627370496) > 0
    · rw [if_pos c5] at H
      have c5b0 : decide (0 < (Int.tmod a0 4503599627370496)) = true := decide_eq_true c5
      clear c5
      simp only [Option.some.injEq, Prod.mk.injEq] at H
      obtain ⟨rfl, rfl, rfl, rfl⟩ := H
      go_enter Tryd.func60, Tryd.ntmps60
      go_wp2
      refine bodyPost_ret_by (results_cell_row rfl _ _ w.heap.size 28 #[.bool false, .int .i64 4, .int .i64 0, .int .u64 0] (0, 0) _ rfl (by first | exact blk_alloc (blk_new w _) _ | exact blk_new w _) hu28 rfl (by kernel_rfl)) rfl ⟨rfl, by repeat (first | exact HB.out | apply below_alloc)⟩
    · rw [if_neg c5] at H
      have c5b0 : decide (0 < (Int.tmod a0 4503599627370496)) = false := decide_eq_false c5
      clear c5
      simp only [Option.some.injEq, Prod.mk.injEq] at H
      obtain ⟨rfl, rfl, rfl, rfl⟩ := H
      go_enter Tryd.func60, Tryd.ntmps60
      go_wp2
      refine bodyPost_ret_by (results_cell_row rfl _ _ w.heap.size 28 #[.bool ((Int.tmod (a0 / 9223372036854775808) 2) == 1), .int .i64 3, .int .i64 0, .int .u64 0] (0, 0) _ rfl (by first | exact blk_alloc (blk_new w _) _ | exact blk_new w _) hu28 rfl (by kernel_rfl)) rfl ⟨rfl, by repeat (first | exact HB.out | apply below_alloc)⟩
  · rw [if_neg c4] at H
    have c4b0 : ((wrap64 (Int.tmod (a0 / 4503599627370496) 2048)) == 2047) = false := beq_eq_false_iff_ne.mpr c4
    have c4b1 : ((wrap64 (Int.tmod (a0 / 4503599627370496) 2048)) != 2047) = true := bne_iff_ne.mpr c4
    by_cases c16 : (wrap64 (Int.tmod (a0 / 4503599627370496) 2048)) > 0
    · rw [if_pos c16] at H
      have c16b0 : decide (0 < (wrap64 (Int.tmod (a0 / 4503599627370496) 2048))) = true := decide_eq_true c16
      clear c16
      simp only [Option.some.injEq, Prod.mk.injEq] at H
      obtain ⟨rfl, rfl, rfl, rfl⟩ := H
      go_enter Tryd.func60, Tryd.ntmps60
      go_wp2
      refine bodyPost_ret_by (results_cell_row rfl _ _ w.heap.size 28 #[.bool ((Int.tmod (a0 / 9223372036854775808) 2) == 1), .int .i64 2, .int .i64 (wrap64 ((wrap64 ((-1074) + (wrap64 (Int.tmod (a0 / 4503599627370496) 2048)))) - 1)), .int .u64 (IntKind.u64.wrap ((Int.tmod a0 4503599627370496) + 4503599627370496))] (0, 0) _ rfl (by first | exact blk_alloc (blk_new w _) _ | exact blk_new w _) hu28 rfl (by kernel_rfl)) rfl ⟨rfl, by repeat (first | exact HB.out | apply below_alloc)⟩
    · rw [if_neg c16] at H
      have c16b0 : decide (0 < (wrap64 (Int.tmod (a0 / 4503599627370496) 2048))) = false := decide_eq_false c16
      clear c16
      by_cases c22 : (Int.tmod a0 4503599627370496) > 0
      · rw [if_pos c22] at H
        have c22b0 : decide (0 < (Int.tmod a0 4503599627370496)) = true := decide_eq_true c22
        clear c22
        simp only [Option.some.injEq, Prod.mk.injEq] at H
        obtain ⟨rfl, rfl, rfl, rfl⟩ := H
        go_enter Tryd.func60, Tryd.ntmps60
        go_wp2
        refine bodyPost_ret_by (results_cell_row rfl _ _ w.heap.size 28 #[.bool ((Int.tmod (a0 / 9223372036854775808) 2) == 1), .int .i64 1, .int .i64 (-1074), .int .u64 (Int.tmod a0 4503599627370496)] (0, 0) _ rfl (by first | exact blk_alloc (blk_new w _) _ | exact blk_new w _) hu28 rfl (by kernel_rfl)) rfl ⟨rfl, by repeat (first | exact HB.out | apply below_alloc)⟩
      · rw [if_neg c22] at H
        have c22b0 : decide (0 < (Int.tmod a0 4503599627370496)) = false := decide_eq_false c22
        clear c22
        simp only [Option.some.injEq, Prod.mk.injEq] at H
        obtain ⟨rfl, rfl, rfl, rfl⟩ := H
        go_enter Tryd.func60, Tryd.ntmps60
        go_wp2
        refine bodyPost_ret_by (results_cell_row rfl _ _ w.heap.size 28 #[.bool ((Int.tmod (a0 / 9223372036854775808) 2) == 1), .int .i64 0, .int .i64 (-1074), .int .u64 (Int.tmod a0 4503599627370496)] (0, 0) _ rfl (by first | exact blk_alloc (blk_new w _) _ | exact blk_new w _) hu28 rfl (by kernel_rfl)) rfl ⟨rfl, by repeat (first | exact HB.out | apply below_alloc)⟩

/-! ### steelyardref01_parts_S: function 60 -/
def steelyardref01_parts_S.f (a0 : Int) : Option (Bool × Int × Int × Int) := if (wrap64 (Int.tmod (a0 / 8388608) 256)) = 255 then (if (Int.tmod a0 8388608) > 0 then (some (false, 4, 0, 0)) else (some (((Int.tmod (a0 / 2147483648) 2) == 1), 3, 0, 0))) else (if (wrap64 (Int.tmod (a0 / 8388608) 256)) > 0 then (some (((Int.tmod (a0 / 2147483648) 2) == 1), 2, wrap64 ((wrap64 ((-149) + (wrap64 (Int.tmod (a0 / 8388608) 256)))) - 1), IntKind.u64.wrap ((Int.tmod a0 8388608) + 8388608))) else (if (Int.tmod a0 8388608) > 0 then (some (((Int.tmod (a0 / 2147483648) 2) == 1), 1, (-149), Int.tmod a0 8388608)) else (some (((Int.tmod (a0 / 2147483648) 2) == 1), 0, (-149), Int.tmod a0 8388608))))
set_option maxHeartbeats 3000000 in
set_option maxRecDepth 100000 in
theorem steelyardref01_parts_S.calls (a0 : Int) (r1 : Bool) (r2 : Int) (r3 : Int) (r4 : Int) (w : World) (h : steelyardref01_parts_S.f a0 = some (r1, r2, r3, r4)) :
    Calls Tryd.prog 60 #[.int .u64 a0, .int .i64 8, .int .i64 23] w fun e w' => e = .returned (.agg #[.bool r1, .int .i64 r2, .int .i64 r3, .int .u64 r4]) ∧ Below w.heap.size w w' := by
  have hu28 := Tryd.underlying28
  have HB := Aside0.mk (Below.refl w.heap.size w)
  have H : (if (wrap64 (Int.tmod (a0 / 8388608) 256)) = 255 then (if (Int.tmod a0 8388608) > 0 then (some (false, 4, 0, 0)) else (some (((Int.tmod (a0 / 2147483648) 2) == 1), 3, 0, 0))) else (if (wrap64 (Int.tmod (a0 / 8388608) 256)) > 0 then (some (((Int.tmod (a0 / 2147483648) 2) == 1), 2, wrap64 ((wrap64 ((-149) + (wrap64 (Int.tmod (a0 / 8388608) 256)))) - 1), IntKind.u64.wrap ((Int.tmod a0 8388608) + 8388608))) else (if (Int.tmod a0 8388608) > 0 then (some (((Int.tmod (a0 / 2147483648) 2) == 1), 1, (-149), Int.tmod a0 8388608)) else (some (((Int.tmod (a0 / 2147483648) 2) == 1), 0, (-149), Int.tmod a0 8388608))))) = some (r1, r2, r3, r4) := h
  clear h
  by_cases c4 : (wrap64 (Int.tmod (a0 / 8388608) 256)) = 255
  · rw [if_pos c4] at H
    have c4b0 : ((wrap64 (Int.tmod (a0 / 8388608) 256)) == 255) = true := beq_iff_eq.mpr c4
    have c4b1 : ((wrap64 (Int.tmod (a0 / 8388608) 256)) != 255) = false := bne_eq_false_iff_eq.mpr c4
    clear c4
    by_cases c5 : (Int.tmod a0 8388608) > 0
    · rw [if_pos c5] at H
      have c5b0 : decide (0 < (Int.tmod a0 8388608)) = true := decide_eq_true c5
      clear c5
      simp only [Option.some.injEq, Prod.mk.injEq] at H
      obtain ⟨rfl, rfl, rfl, rfl⟩ := H
      go_enter Tryd.func60, Tryd.ntmps60
      go_wp2
      refine bodyPost_ret_by (results_cell_row rfl _ _ w.heap.size 28 #[.bool false, .int .i64 4, .int .i64 0, .int .u64 0] (0, 0) _ rfl (by first | exact blk_alloc (blk_new w _) _ | exact blk_new w _) hu28 rfl (by kernel_rfl)) rfl ⟨rfl, by repeat (first | exact HB.out | apply below_alloc)⟩
    · rw [if_neg c5] at H
      have c5b0 : decide (0 < (Int.tmod a0 8388608)) = false := decide_eq_false c5
      clear c5
      simp only [Option.some.injEq, Prod.mk.injEq] at H
      obtain ⟨rfl, rfl, rfl, rfl⟩ := H
      go_enter Tryd.func60, Tryd.ntmps60
      go_wp2
      refine bodyPost_ret_by (results_cell_row rfl _ _ w.heap.size 28 #[.bool ((Int.tmod (a0 / 2147483648) 2) == 1), .int .i64 3, .int .i64 0, .int .u64 0] (0, 0) _ rfl (by first | exact blk_alloc (blk_new w _) _ | exact blk_new w _) hu28 rfl (by kernel_rfl)) rfl ⟨rfl, by repeat (first | exact HB.out | apply below_alloc)⟩
  · rw [if_neg c4] at H
    have c4b0 : ((wrap64 (Int.tmod (a0 / 8388608) 256)) == 255) = false := beq_eq_false_iff_ne.mpr c4
    have c4b1 : ((wrap64 (Int.tmod (a0 / 8388608) 256)) != 255) = true := bne_iff_ne.mpr c4
    by_cases c16 : (wrap64 (Int.tmod (a0 / 8388608) 256)) > 0
    · rw [if_pos c16] at H
      have c16b0 : decide (0 < (wrap64 (Int.tmod (a0 / 8388608) 256))) = true := decide_eq_true c16
      clear c16
      simp only [Option.some.injEq, Prod.mk.injEq] at H
      obtain ⟨rfl, rfl, rfl, rfl⟩ := H
      go_enter Tryd.func60, Tryd.ntmps60
      go_wp2
      refine bodyPost_ret_by (results_cell_row rfl _ _ w.heap.size 28 #[.bool ((Int.tmod (a0 / 2147483648) 2) == 1), .int .i64 2, .int .i64 (wrap64 ((wrap64 ((-149) + (wrap64 (Int.tmod (a0 / 8388608) 256)))) - 1)), .int .u64 (IntKind.u64.wrap ((Int.tmod a0 8388608) + 8388608))] (0, 0) _ rfl (by first | exact blk_alloc (blk_new w _) _ | exact blk_new w _) hu28 rfl (by kernel_rfl)) rfl ⟨rfl, by repeat (first | exact HB.out | apply below_alloc)⟩
    · rw [if_neg c16] at H
      have c16b0 : decide (0 < (wrap64 (Int.tmod (a0 / 8388608) 256))) = false := decide_eq_false c16
      clear c16
      by_cases c22 : (Int.tmod a0 8388608) > 0
      · rw [if_pos c22] at H
        have c22b0 : decide (0 < (Int.tmod a0 8388608)) = true := decide_eq_true c22
        clear c22
        simp only [Option.some.injEq, Prod.mk.injEq] at H
        obtain ⟨rfl, rfl, rfl, rfl⟩ := H
        go_enter Tryd.func60, Tryd.ntmps60
        go_wp2
        refine bodyPost_ret_by (results_cell_row rfl _ _ w.heap.size 28 #[.bool ((Int.tmod (a0 / 2147483648) 2) == 1), .int .i64 1, .int .i64 (-149), .int .u64 (Int.tmod a0 8388608)] (0, 0) _ rfl (by first | exact blk_alloc (blk_new w _) _ | exact blk_new w _) hu28 rfl (by kernel_rfl)) rfl ⟨rfl, by repeat (first | exact HB.out | apply below_alloc)⟩
      · rw [if_neg c22] at H
        have c22b0 : decide (0 < (Int.tmod a0 8388608)) = false := decide_eq_false c22
        clear c22
        simp only [Option.some.injEq, Prod.mk.injEq] at H
        obtain ⟨rfl, rfl, rfl, rfl⟩ := H
        go_enter Tryd.func60, Tryd.ntmps60
        go_wp2
        refine bodyPost_ret_by (results_cell_row rfl _ _ w.heap.size 28 #[.bool ((Int.tmod (a0 / 2147483648) 2) == 1), .int .i64 0, .int .i64 (-149), .int .u64 (Int.tmod a0 8388608)] (0, 0) _ rfl (by first | exact blk_alloc (blk_new w _) _ | exact blk_new w _) hu28 rfl (by kernel_rfl)) rfl ⟨rfl, by repeat (first | exact HB.out | apply below_alloc)⟩

/-! ### steelyardref01_parts: function 60 -/
def steelyardref01_parts.f (a0 : Int) (a1 : Int) (a2 : Int) : Option (Bool × Int × Int × Int) := if a1 = 11 ∧ a2 = 52 then steelyardref01_parts_L.f a0 else if a1 = 8 ∧ a2 = 23 then steelyardref01_parts_S.f a0 else none
theorem steelyardref01_parts.calls (a0 : Int) (a1 : Int) (a2 : Int) (r1 : Bool) (r2 : Int) (r3 : Int) (r4 : Int) (w : World) (h : steelyardref01_parts.f a0 a1 a2 = some (r1, r2, r3, r4)) :
    Calls Tryd.prog 60 #[.int .u64 a0, .int .i64 a1, .int .i64 a2] w fun e w' => e = .returned (.agg #[.bool r1, .int .i64 r2, .int .i64 r3, .int .u64 r4]) ∧ Below w.heap.size w w' := by
  unfold steelyardref01_parts.f at h
  by_cases c0 : a1 = 11 ∧ a2 = 52
  · rw [if_pos c0] at h
    obtain ⟨rfl, rfl⟩ := c0
    exact steelyardref01_parts_L.calls a0 r1 r2 r3 r4 w  h
  rw [if_neg c0] at h
  by_cases c1 : a1 = 8 ∧ a2 = 23
  · rw [if_pos c1] at h
    obtain ⟨rfl, rfl⟩ := c1
    exact steelyardref01_parts_S.calls a0 r1 r2 r3 r4 w  h
  rw [if_neg c1] at h
  cases h

/-! ### steelyardref01_Bits: function 61 -/
def steelyardref01_Bits.f (a0 : Nat) : Option (Int) := if ((a0 : Int) % 9223372036854775808) > 9218868437227405312 then (some 9221120237041090560) else (some (a0 : Int))
set_option maxHeartbeats 3000000 in
set_option maxRecDepth 100000 in
theorem steelyardref01_Bits.calls (a0 : Nat) (r : Int) (w : World) (h : steelyardref01_Bits.f a0 = some r) :
    Calls Tryd.prog 61 #[.float .f64 a0] w fun e w' => e = .returned (.int .u64 r) ∧ Drawn0 w w' := by
  have H : (if ((a0 : Int) % 9223372036854775808) > 9218868437227405312 then (some 9221120237041090560) else (some (a0 : Int))) = some r := h
  clear h
  by_cases c2 : ((a0 : Int) % 9223372036854775808) > 9218868437227405312
  · rw [if_pos c2] at H
    have c2b0 : decide (9218868437227405312 < ((a0 : Int) % 9223372036854775808)) = true := decide_eq_true c2
    clear c2
    obtain rfl := Option.some.inj H
    go_enter Tryd.func61, Tryd.ntmps61
    go_wp2
    go_ret
    exact ⟨by first | rfl | (simp; done) | (simp [*]; done), by repeat (first | exact Drawn0.refl _ | apply Drawn0.step)⟩
  · rw [if_neg c2] at H
    have c2b0 : decide (9218868437227405312 < ((a0 : Int) % 9223372036854775808)) = false := decide_eq_false c2
    clear c2
    obtain rfl := Option.some.inj H
    go_enter Tryd.func61, Tryd.ntmps61
    go_wp2
    go_ret
    exact ⟨by first | rfl | (simp; done) | (simp [*]; done), by repeat (first | exact Drawn0.refl _ | apply Drawn0.step)⟩

/-! ### steelyardref01_Split: function 28 -/
def steelyardref01_Split.f (a0 : Nat) : Option (Bool × Int × Int × Int) := (steelyardref01_Bits.f a0).bind fun t158 => ((steelyardref01_parts.f t158 11 52).bind fun bt159 => (some (bt159.1, bt159.2.1, bt159.2.2.1, bt159.2.2.2)))
set_option maxHeartbeats 3000000 in
set_option maxRecDepth 100000 in
theorem steelyardref01_Split.calls (a0 : Nat) (r1 : Bool) (r2 : Int) (r3 : Int) (r4 : Int) (w : World) (h : steelyardref01_Split.f a0 = some (r1, r2, r3, r4)) :
    Calls Tryd.prog 28 #[.float .f64 a0] w fun e w' => e = .returned (.agg #[.bool r1, .int .i64 r2, .int .i64 r3, .int .u64 r4]) ∧ Below w.heap.size w w' := by
  have hu28 := Tryd.underlying28
  have HB := Aside0.mk (Below.refl w.heap.size w)
  have H : ((steelyardref01_Bits.f a0).bind fun t158 => ((steelyardref01_parts.f t158 11 52).bind fun bt159 => (some (bt159.1, bt159.2.1, bt159.2.2.1, bt159.2.2.2)))) = some (r1, r2, r3, r4) := h
  clear h
  replace H := Option.bind_eq_some_iff.mp H
  obtain ⟨t158, A20, H⟩ := H
  replace H : ((steelyardref01_parts.f t158 11 52).bind fun bt159 => (some (bt159.1, bt159.2.1, bt159.2.2.1, bt159.2.2.2))) = some (r1, r2, r3, r4) := H
  have A2 := Aside0.mk A20
  clear A20
  replace H := Option.bind_eq_some_iff.mp H
  obtain ⟨⟨t159, t160, t161, t162⟩, A30, H⟩ := H
  replace H : (some (t159, t160, t161, t162)) = some (r1, r2, r3, r4) := H
  have A3 := Aside0.mk A30
  clear A30
  simp only [Option.some.injEq, Prod.mk.injEq] at H
  obtain ⟨rfl, rfl, rfl, rfl⟩ := H
  go_enter Tryd.func28, Tryd.ntmps28
  go_wp2_with (first | ((with_reducible refine gate_dst (N := 2) rfl ?_); refine box_event ?hg (N := 2) ?hd (cs := #[.bool false, .int .i64 0, .int .i64 0, .int .u64 0]) (t := 28) ?hr ?_; (case hd => rfl); (case hg => rfl); (case hr => first | (go_simp; done) | (go_simp; rfl)); intro gb157 hg w4 hbox hb; have n0_ := bs_ HB hb; have n1_ := Aside0.mk (hbox); have n2_ := ge_ HB hg; have n3_ := ge_ HB hg; clear HB; have HB := n0_; have BK157 := n1_; have GW157 := n2_; have GE157 := n3_; clear n0_ n1_ n2_ n3_; clear hb hbox hg) | ((with_reducible refine gate_callee (f := 61) rfl ?_); refine goesL_ (some 4) rfl rfl Tryd.func61 (by kernel_rfl) rfl #[.float .f64 a0] rfl (by (try simp only [List.map_toArray, List.map_cons, List.map_nil]); first | done | rfl | (simp only [List.length_drop, List.length_take]; rfl)) ?_; (with_reducible refine (steelyardref01_Bits.calls a0 t158 _ A2.out).mono ?_); rintro e w' ⟨rfl, ⟨nd, rfl⟩⟩; refine ⟨_, rfl, ?_⟩; (try (rw [drewN_self w4]; generalize hq_ : World.drewN w4 _ = w4; have n0_ : Aside0 (w4.heap[gb157]? = some (.cells #[.bool false, .int .i64 0, .int .i64 0, .int .u64 0] 28 (0, 0))) := ⟨by rw [← hq_]; exact (bk_ BK157)⟩; have n1_ : Aside0 (Below w.heap.size w w4) := ⟨by rw [← hq_]; exact (bl_ HB)⟩; clear BK157 HB hq_; have BK157 := n0_; have HB := n1_; clear n0_ n1_))) | ((with_reducible refine gate_callee (f := 60) rfl ?_); refine goesL_ (some 5) rfl rfl Tryd.func60 (by kernel_rfl) rfl #[.int .u64 t158, .int .i64 11, .int .i64 52] rfl (by (try simp only [List.map_toArray, List.map_cons, List.map_nil]); first | done | rfl | (simp only [List.length_drop, List.length_take]; rfl)) ?_; (with_reducible refine (steelyardref01_parts.calls t158 11 52 t159 t160 t161 t162 _ A3.out).mono ?_); rintro e w5 ⟨rfl, hb⟩; refine ⟨_, rfl, ?_⟩; have n0_ := kb_ BK157 hb; have n1_ := bs_ HB hb; clear BK157; clear HB; have BK157 := n0_; have HB := n1_; clear n0_ n1_; (try clear hb); (try clear hb2); (try clear hk); (try clear hi); have hcz6_0 : w5.cell? ⟨gb157, 0, none⟩ = some (.bool false) := (blk_cell BK157.out 0).trans rfl; have hcz6_1 : w5.cell? ⟨gb157, 1, none⟩ = some (.int .i64 0) := (blk_cell BK157.out 1).trans rfl; have hcz6_2 : w5.cell? ⟨gb157, 2, none⟩ = some (.int .i64 0) := (blk_cell BK157.out 2).trans rfl; have hcz6_3 : w5.cell? ⟨gb157, 3, none⟩ = some (.int .u64 0) := (blk_cell BK157.out 3).trans rfl; have hfz6_0 := blk_frozen BK157.out 0; have hfz6_1 := blk_frozen BK157.out 1; have hfz6_2 := blk_frozen BK157.out 2; have hfz6_3 := blk_frozen BK157.out 3))
  refine bodyPost_ret (results_cell_row rfl _ _ gb157 28 #[.bool t159, .int .i64 t160, .int .i64 t161, .int .u64 t162] (0, 0) _ rfl (by (with_reducible repeat (first | refine blk_drewN ?_ _ | refine blk_drew ?_ | refine blk_alloc ?_ _)); refine blk_put (cs := #[.bool t159, .int .i64 t160, .int .i64 t161, .int .u64 0]) ?_ 3 _ rfl; (with_reducible repeat (first | refine blk_drewN ?_ _ | refine blk_drew ?_ | refine blk_alloc ?_ _)); refine blk_put (cs := #[.bool t159, .int .i64 t160, .int .i64 0, .int .u64 0]) ?_ 2 _ rfl; (with_reducible repeat (first | refine blk_drewN ?_ _ | refine blk_drew ?_ | refine blk_alloc ?_ _)); refine blk_put (cs := #[.bool t159, .int .i64 0, .int .i64 0, .int .u64 0]) ?_ 1 _ rfl; (with_reducible repeat (first | refine blk_drewN ?_ _ | refine blk_drew ?_ | refine blk_alloc ?_ _)); refine blk_put (cs := #[.bool false, .int .i64 0, .int .i64 0, .int .u64 0]) ?_ 0 _ rfl; (with_reducible repeat (first | refine blk_drewN ?_ _ | refine blk_drew ?_ | refine blk_alloc ?_ _)); exact BK157.out) Tryd.underlying28 rfl (by kernel_rfl)) rfl ?_
  exact ⟨by first | rfl | (simp [errW_none, errW_some] <;> rfl) | (simp [*, errW_none, errW_some] <;> rfl), by repeat (first | (with_reducible first | exact HB.out | apply below_alloc | apply pw_below_drewN | apply below_drew1 | refine below_set ?_ GE157.out) | exact HB.out)⟩

/-! ### steelyardref01_Of: function 48 -/
def steelyardref01_Of.f (a0 : Int) : Option (Nat) := some ((a0 : Int).toNat)
set_option maxHeartbeats 3000000 in
set_option maxRecDepth 100000 in
theorem steelyardref01_Of.calls (a0 : Int) (r : Nat) (w : World) (h : steelyardref01_Of.f a0 = some r) :
    Calls Tryd.prog 48 #[.int .u64 a0] w fun e w' => e = .returned (.float .f64 r) ∧ Drawn0 w w' := by
  have H : (some ((a0 : Int).toNat)) = some r := h
  clear h
  obtain rfl := Option.some.inj H
  go_enter Tryd.func48, Tryd.ntmps48
  go_wp2
  go_ret
  exact ⟨by first | rfl | (simp; done) | (simp [*]; done), by repeat (first | exact Drawn0.refl _ | apply Drawn0.step)⟩

/-! ### steelyardref01_NaN: function 47 -/
def steelyardref01_NaN.f  : Option (Nat) := (steelyardref01_Of.f 9221120237041090560).bind fun t163 => (some t163)
set_option maxHeartbeats 3000000 in
set_option maxRecDepth 100000 in
theorem steelyardref01_NaN.calls  (r : Nat) (w : World) (h : steelyardref01_NaN.f  = some r) :
    Calls Tryd.prog 47 #[] w fun e w' => e = .returned (.float .f64 r) ∧ Drawn0 w w' := by
  have H : ((steelyardref01_Of.f 9221120237041090560).bind fun t163 => (some t163)) = some r := h
  clear h
  replace H := Option.bind_eq_some_iff.mp H
  obtain ⟨t163, A10, H⟩ := H
  replace H : (some t163) = some r := H
  have A1 := Aside0.mk A10
  clear A10
  obtain rfl := Option.some.inj H
  go_enter Tryd.func47, Tryd.ntmps47
  go_wp2_with (first | ((with_reducible refine gate_callee (f := 48) rfl ?_); refine goesL_ (some 1) rfl rfl Tryd.func48 (by kernel_rfl) rfl #[.int .u64 9221120237041090560] rfl (by (try simp only [List.map_toArray, List.map_cons, List.map_nil]); first | done | rfl | (simp only [List.length_drop, List.length_take]; rfl)) ?_; (with_reducible refine (steelyardref01_Of.calls 9221120237041090560 t163 _ A1.out).mono ?_); rintro e w' ⟨rfl, ⟨nd, rfl⟩⟩; refine ⟨_, rfl, ?_⟩))
  go_ret
  exact ⟨by first | rfl | (simp; done) | (simp [*]; done), by repeat (first | exact Drawn0.refl _ | apply Drawn0.step)⟩

end Go.Proofs.YtjkcgelemidapaaDoor.Pr
