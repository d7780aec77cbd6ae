-- short
-- written by this session's own program (wip/fprint.py), which widens the kit's print by floats
import Derived.Test.YtkoonpjlpobmeaaWShort
import Derived.Test.YtkoonpjlpobmeaaPr0
namespace Go.Proofs.Ytkoonpjlpobmeaa.Pr
open Go.RowKit Go.Proofs.YtkoonpjlpobmeaaW.PrintWords Go.Proofs.YtkoonpjlpobmeaaW.PrintLast Go.Proofs.YtkoonpjlpobmeaaW.PrintMore
attribute [local go_sem] max2_int min2_int max_two min_two max_three min_three max_four min_four   -- for this text's walks alone
set_option linter.unusedVariables false
set_option linter.unusedSimpArgs false

/-! ### policy_Plain: function 9 -/
def policy_Plain.f  : Option (Int × Int) := some (0, 0)
set_option maxHeartbeats 3000000 in
set_option maxRecDepth 100000 in
theorem policy_Plain.calls  (r1 : Int) (r2 : Int) (w : World) (h : policy_Plain.f  = some (r1, r2)) :
  Calls Try.prog 9 #[] w fun e w' => e = .returned (.agg #[.int .i64 r1, .int .i64 r2]) ∧ Below w.heap.size w w' := by
 have hu23 := Try.underlying23
 have HB := Aside0.mk (Below.refl w.heap.size w)
 have H : (some (0, 0)) = some (r1, r2) := h
 clear h
 simp only [Option.some.injEq, Prod.mk.injEq] at H
 obtain ⟨rfl, rfl⟩ := H
 go_enter Try.func9, Try.ntmps9
 go_wp2_with (first | ((with_reducible refine gate_dst (N := 0) rfl ?_); refine box_event ?hg (N := 0) ?hd (cs := #[.int .i64 0, .int .i64 0]) (t := 23) ?hr ?_; (case hd => rfl); (case hg => rfl); (case hr => first | (go_simp; done) | (go_simp; rfl)); intro gb101 hg w1 hbox hb; have n0_ := bs_ HB hb; have n1_ := Aside0.mk (hbox); have n2_ := ge_ HB hg; have n3_ := ge_ HB hg; clear HB; have HB := n0_; have BK101 := n1_; have GW101 := n2_; have GE101 := n3_; clear n0_ n1_ n2_ n3_; clear hb hbox hg; have hcz2_0 : w1.cell? ⟨gb101, 0, none⟩ = some (.int .i64 0) := (blk_cell BK101.out 0).trans rfl; have hcz2_1 : w1.cell? ⟨gb101, 1, none⟩ = some (.int .i64 0) := (blk_cell BK101.out 1).trans rfl; have hfz2_0 := blk_frozen BK101.out 0; have hfz2_1 := blk_frozen BK101.out 1))
 refine bodyPost_ret (results_cell_row rfl _ _ gb101 23 #[.int .i64 0, .int .i64 0] (0, 0) _ rfl (by (with_reducible repeat (first | apply bN | apply bD | apply bA)); refine blk_put (cs := #[.int .i64 0, .int .i64 0]) ?_ 1 _ rfl; (with_reducible repeat (first | apply bN | apply bD | apply bA)); refine blk_put (cs := #[.int .i64 0, .int .i64 0]) ?_ 0 _ rfl; (with_reducible repeat (first | apply bN | apply bD | apply bA)); exact BK101.out) Try.underlying23 rfl (by kernel_rfl)) rfl ?_
 exact ⟨by first | rfl | (simp [errW_none, errW_some] <;> rfl) | (simp [*, errW_none, errW_some] <;> rfl), bl_ HB⟩

/-! ### policy_choice: function 27 -/
def policy_choice.f (a0 : Int) : Option (Bool) := if a0 ≥ 0 then (some (decide (a0 ≤ 2))) else (some false)
set_option maxHeartbeats 3000000 in
set_option maxRecDepth 100000 in
theorem policy_choice.calls (a0 : Int) (r : Bool) (w : World) (h : policy_choice.f a0 = some r) :
  Calls Try.prog 27 #[.int .i64 a0] w fun e w' => e = .returned (.bool r) ∧ Drawn0 w w' := by
 have H : (if a0 ≥ 0 then (some (decide (a0 ≤ 2))) else (some false)) = some r := h
 clear h
 by_cases c2 : a0 ≥ 0
 ·rw [if_pos c2] at H
  have c2b0 : decide (0 ≤ a0) = true := decide_eq_true c2
  clear c2
  obtain rfl := Option.some.inj H
  go_enter Try.func27, Try.ntmps27
  go_wp2
  go_ret
  exact ⟨by first | rfl | (simp; done) | (simp [*]; done), by repeat (first | exact Drawn0.refl _ | apply Drawn0.step)⟩
 ·rw [if_neg c2] at H
  have c2b0 : decide (0 ≤ a0) = false := decide_eq_false c2
  clear c2
  obtain rfl := Option.some.inj H
  go_enter Try.func27, Try.ntmps27
  go_wp2
  go_ret
  exact ⟨by first | rfl | (simp; done) | (simp [*]; done), by repeat (first | exact Drawn0.refl _ | apply Drawn0.step)⟩

/-! ### policy_May: function 8 -/
def policy_May.f (a0_0 : Int) (a0_1 : Int) : Option (Bool) := (policy_choice.f a0_0).bind fun t103 => (if t103 = true then ((policy_choice.f a0_1).bind fun t104 => (some t104)) else (some false))
set_option maxHeartbeats 3000000 in
set_option maxRecDepth 100000 in
theorem policy_May.calls (a0_0 : Int) (a0_1 : Int) (r : Bool) (w : World) (h : policy_May.f a0_0 a0_1 = some r) :
  Calls Try.prog 8 #[.agg #[.int .i64 a0_0, .int .i64 a0_1]] w fun e w' => e = .returned (.bool r) ∧ Below w.heap.size w w' := by
 have hu23 := Try.underlying23
 have HB := Aside0.mk (Below.refl w.heap.size w)
 have H : ((policy_choice.f a0_0).bind fun t103 => (if t103 = true then ((policy_choice.f a0_1).bind fun t104 => (some t104)) else (some false))) = some r := h
 clear h
 obtain ⟨t103, A2, H⟩ := ob_ H
 try dsimp only at H
 by_cases c3 : t103 = true
 ·subst c3
  have H1 : ((policy_choice.f a0_1).bind fun t104 => (some t104)) = some r := by rw [if_pos rfl] at H; exact H
  clear H
  have H := H1
  clear H1
  obtain ⟨t104, A4, H⟩ := ob_ H
  try dsimp only at H
  obtain rfl := Option.some.inj H
  go_enter Try.func8, Try.ntmps8
  go_wp2_with (first | ((with_reducible refine gate_dst (N := 1) rfl ?_); refine box_event ?hg (N := 1) ?hd (cs := #[.int .i64 a0_0, .int .i64 a0_1]) (t := 23) ?hr ?_; (case hd => rfl); (case hg => rfl); (case hr => first | (go_simp; done) | (go_simp; rfl)); intro gb102 hg w5 hbox hb; have n0_ := bs_ HB hb; have n1_ := Aside0.mk (hbox); have n2_ := ge_ HB hg; have n3_ := ge_ HB hg; clear HB; have HB := n0_; have BK102 := n1_; have GW102 := n2_; have GE102 := n3_; clear n0_ n1_ n2_ n3_; clear hb hbox hg; have hcz6_0 : w5.cell? ⟨gb102, 0, none⟩ = some (.int .i64 a0_0) := (blk_cell BK102.out 0).trans rfl; have hcz6_1 : w5.cell? ⟨gb102, 1, none⟩ = some (.int .i64 a0_1) := (blk_cell BK102.out 1).trans rfl; have hfz6_0 := blk_frozen BK102.out 0; have hfz6_1 := blk_frozen BK102.out 1) | ((with_reducible refine gate_callee (f := 27) rfl ?_); refine goesM (some 5) Try.func27 #[.int .i64 a0_0] ?_; (with_reducible refine (policy_choice.calls a0_0 true _ A2.out).mono ?_); rintro e w' ⟨rfl, ⟨nd, rfl⟩⟩; refine ⟨_, rfl, ?_⟩) | (go_at_call 27; (with_reducible refine (policy_choice.calls a0_1 t104 _ A4.out).mono ?_); rintro e w' ⟨rfl, ⟨nd, rfl⟩⟩))
  go_ret
  exact ⟨by first | rfl | (simp [errW_none, errW_some] <;> rfl) | (simp [*, errW_none, errW_some] <;> rfl), bl_ HB⟩
 ·replace c3 := Bool.eq_false_iff.mpr c3
  subst c3
  have H1 : (some false) = some r := by rw [if_neg (show ¬ (false = true) by decide)] at H; exact H
  clear H
  have H := H1
  clear H1
  obtain rfl := Option.some.inj H
  go_enter Try.func8, Try.ntmps8
  go_wp2_with (first | ((with_reducible refine gate_dst (N := 1) rfl ?_); refine box_event ?hg (N := 1) ?hd (cs := #[.int .i64 a0_0, .int .i64 a0_1]) (t := 23) ?hr ?_; (case hd => rfl); (case hg => rfl); (case hr => first | (go_simp; done) | (go_simp; rfl)); intro gb102 hg w7 hbox hb; have n0_ := bs_ HB hb; have n1_ := Aside0.mk (hbox); have n2_ := ge_ HB hg; have n3_ := ge_ HB hg; clear HB; have HB := n0_; have BK102 := n1_; have GW102 := n2_; have GE102 := n3_; clear n0_ n1_ n2_ n3_; clear hb hbox hg; have hcz8_0 : w7.cell? ⟨gb102, 0, none⟩ = some (.int .i64 a0_0) := (blk_cell BK102.out 0).trans rfl; have hcz8_1 : w7.cell? ⟨gb102, 1, none⟩ = some (.int .i64 a0_1) := (blk_cell BK102.out 1).trans rfl; have hfz8_0 := blk_frozen BK102.out 0; have hfz8_1 := blk_frozen BK102.out 1) | ((with_reducible refine gate_callee (f := 27) rfl ?_); refine goesM (some 5) Try.func27 #[.int .i64 a0_0] ?_; (with_reducible refine (policy_choice.calls a0_0 false _ A2.out).mono ?_); rintro e w' ⟨rfl, ⟨nd, rfl⟩⟩; refine ⟨_, rfl, ?_⟩))
  go_ret
  exact ⟨by first | rfl | (simp [errW_none, errW_some] <;> rfl) | (simp [*, errW_none, errW_some] <;> rfl), bl_ HB⟩

/-! ### bits_long: function 43 -/
def bits_long.f  : Option (Int × Int × Int) := some (11, 52, (-1074))
set_option maxHeartbeats 3000000 in
set_option maxRecDepth 100000 in
theorem bits_long.calls  (r1 : Int) (r2 : Int) (r3 : Int) (w : World) (h : bits_long.f  = some (r1, r2, r3)) :
  Calls Try.prog 43 #[] w fun e w' => e = .returned (.agg #[.int .i64 r1, .int .i64 r2, .int .i64 r3]) ∧ Below w.heap.size w w' := by
 have hu70 := Try.underlying70
 have HB := Aside0.mk (Below.refl w.heap.size w)
 have H : (some (11, 52, (-1074))) = some (r1, r2, r3) := h
 clear h
 simp only [Option.some.injEq, Prod.mk.injEq] at H
 obtain ⟨rfl, rfl, rfl⟩ := H
 go_enter Try.func43, Try.ntmps43
 go_wp2_with (first | ((with_reducible refine gate_dst (N := 0) rfl ?_); refine box_event ?hg (N := 0) ?hd (cs := #[.int .i64 0, .int .i64 0, .int .i64 0]) (t := 70) ?hr ?_; (case hd => rfl); (case hg => rfl); (case hr => first | (go_simp; done) | (go_simp; rfl)); intro gb105 hg w1 hbox hb; have n0_ := bs_ HB hb; have n1_ := Aside0.mk (hbox); have n2_ := ge_ HB hg; have n3_ := ge_ HB hg; clear HB; have HB := n0_; have BK105 := n1_; have GW105 := n2_; have GE105 := n3_; clear n0_ n1_ n2_ n3_; clear hb hbox hg; have hcz2_0 : w1.cell? ⟨gb105, 0, none⟩ = some (.int .i64 0) := (blk_cell BK105.out 0).trans rfl; have hcz2_1 : w1.cell? ⟨gb105, 1, none⟩ = some (.int .i64 0) := (blk_cell BK105.out 1).trans rfl; have hcz2_2 : w1.cell? ⟨gb105, 2, none⟩ = some (.int .i64 0) := (blk_cell BK105.out 2).trans rfl; have hfz2_0 := blk_frozen BK105.out 0; have hfz2_1 := blk_frozen BK105.out 1; have hfz2_2 := blk_frozen BK105.out 2))
 refine bodyPost_ret (results_cell_row rfl _ _ gb105 70 #[.int .i64 11, .int .i64 52, .int .i64 (-1074)] (0, 0) _ rfl (by (with_reducible repeat (first | apply bN | apply bD | apply bA)); refine blk_put (cs := #[.int .i64 11, .int .i64 52, .int .i64 0]) ?_ 2 _ rfl; (with_reducible repeat (first | apply bN | apply bD | apply bA)); refine blk_put (cs := #[.int .i64 11, .int .i64 0, .int .i64 0]) ?_ 1 _ rfl; (with_reducible repeat (first | apply bN | apply bD | apply bA)); refine blk_put (cs := #[.int .i64 0, .int .i64 0, .int .i64 0]) ?_ 0 _ rfl; (with_reducible repeat (first | apply bN | apply bD | apply bA)); exact BK105.out) Try.underlying70 rfl (by kernel_rfl)) rfl ?_
 exact ⟨by first | rfl | (simp [errW_none, errW_some] <;> rfl) | (simp [*, errW_none, errW_some] <;> rfl), bl_ HB⟩

end Go.Proofs.Ytkoonpjlpobmeaa.Pr
