-- short
-- written by this session's own program (wip/fprint.py), which widens the kit's print by floats
import Derived.Test.YtdemanikmaafeaaPr0
import Derived.Test.YtdemanikmaafeaaPr6
import Derived.Test.YtdemanikmaafeaaPr13
import Derived.Test.YtdemanikmaafeaaPr16
namespace Go.Proofs.Ytdemanikmaafeaa.Pr
open Go.RowKit Go.Proofs.YtdemanikmaafeaaW.PrintWords Go.Proofs.YtdemanikmaafeaaW.PrintLast Go.Proofs.YtdemanikmaafeaaW.PrintMore
attribute [local go_sem] max2_int min2_int max_two min_two max_three min_three max_four min_four   -- for this text's walks alone
set_option linter.unusedVariables false
set_option linter.unusedSimpArgs false

/-! ### steelyardref03_Size_Bits: function 72 -/
def steelyardref03_Size_Bits.f (k : Nat) (a0_0 : Int) (a0_1 : Int) (a0_2 : Int) (a1 : Bool) (a2 : Int) : Option (Bool × List Int × Int × Bool) := if a2 ≥ a0_2 then (some (false, ([] : List Int), 0, false)) else ((steelyardref03_Size_Number.f k a0_0 a0_1 a0_2 a2).bind fun bt427 => ((steelyardref03_Form.f k a1 bt427.1 bt427.2).bind fun bt431 => (some (bt431.1, bt431.2.1, bt431.2.2.1, bt431.2.2.2))))
theorem steelyardref03_Size_Bits.mono : ∀ a0 a1 a2 a3 a4 k, LeO (steelyardref03_Size_Bits.f k a0 a1 a2 a3 a4) (steelyardref03_Size_Bits.f (k + 1) a0 a1 a2 a3 a4) := by
 intro a0 a1 a2 a3 a4 k
 unfold steelyardref03_Size_Bits.f
 repeat' first
   | (with_reducible exact steelyardref03_Form.mono _ _ _ _)
   | (with_reducible exact steelyardref03_Size_Number.mono _ _ _ _ _)
   | (with_reducible exact LeO.refl _)
   | (with_reducible exact LeO.none _)
   | (with_reducible refine LeO.ite ?_ ?_)
   | (with_reducible refine LeO.bind ?_ (fun _ => ?_))
   | exact steelyardref03_Form.mono _ _ _ _
   | exact steelyardref03_Size_Number.mono _ _ _ _ _
   | exact LeO.none _
   | refine LeO.ite ?_ ?_
   | refine LeO.bind ?_ (fun _ => ?_)
set_option maxHeartbeats 3000000 in
set_option maxRecDepth 100000 in
theorem steelyardref03_Size_Bits.calls (k : Nat) (a0_0 : Int) (a0_1 : Int) (a0_2 : Int) (a1 : Bool) (a2 : Int) (r1 : Bool) (r2 : List Int) (r3 : Int) (r4 : Bool) (w : World) (h : steelyardref03_Size_Bits.f k a0_0 a0_1 a0_2 a1 a2 = some (r1, r2, r3, r4)) :
  Calls Try.prog 72 #[.agg #[.int .i64 a0_0, .int .i64 a0_1, .int .u64 a0_2], .bool a1, .int .u64 a2] w fun e w' => ∃ v1_ : Value, e = .returned (.tuple #[.agg #[.bool r1, v1_, .int .i64 r3], .bool r4]) ∧ Kd.R (Kd.int .u32) 72 w' w.heap.size (fun _ => True) v1_ r2 ∧ Below w.heap.size w w' := by
 have hu83 := Try.underlying83
 have hu43 := Try.underlying43
 have HB := Aside0.mk (Below.refl w.heap.size w)
 have H : (if a2 ≥ a0_2 then (some (false, ([] : List Int), 0, false)) else ((steelyardref03_Size_Number.f k a0_0 a0_1 a0_2 a2).bind fun bt427 => ((steelyardref03_Form.f k a1 bt427.1 bt427.2).bind fun bt431 => (some (bt431.1, bt431.2.1, bt431.2.2.1, bt431.2.2.2))))) = some (r1, r2, r3, r4) := h
 clear h
 by_cases c4 : a2 ≥ a0_2
 ·rw [if_pos c4] at H
  have c4b0 : decide (a0_2 ≤ a2) = true := decide_eq_true c4
  clear c4
  simp only [Option.some.injEq, Prod.mk.injEq] at H
  obtain ⟨rfl, rfl, rfl, rfl⟩ := H
  go_enter Try.func72, Try.ntmps72
  go_wp2_with (first | ((with_reducible refine gate_dst (N := 3) rfl ?_); refine box_event ?hg (N := 3) ?hd (cs := #[.int .i64 a0_0, .int .i64 a0_1, .int .u64 a0_2]) (t := 83) ?hr ?_; (case hd => rfl); (case hg => rfl); (case hr => first | (go_simp; done) | (go_simp; rfl)); intro gb425 hg w5 hbox hb; have n0_ := bs_ HB hb; have n1_ := Aside0.mk (hbox); have n2_ := ge_ HB hg; have n3_ := ge_ HB hg; clear HB; have HB := n0_; have BK425 := n1_; have GW425 := n2_; have GE425 := n3_; clear n0_ n1_ n2_ n3_; clear hb hbox hg) | ((with_reducible refine gate_dst (N := 6) rfl ?_); refine box_event ?hg (N := 6) ?hd (cs := #[.bool false, .slice none 0 0, .int .i64 0]) (t := 43) ?hr ?_; (case hd => rfl); (case hg => rfl); (case hr => first | (go_simp; done) | (go_simp; rfl)); intro gb426 hg w6 hbox hb; have n0_ := kb_ BK425 hb; have n1_ := bs_ HB hb; have n2_ := Aside0.mk (hbox); have n3_ := ge_ HB hg; have n4_ := ge_ HB hg; have n5_ := nlt_ BK425 hg; have n6_ := ngt_ BK425 hg; clear BK425; clear HB; have BK425 := n0_; have HB := n1_; have BK426 := n2_; have GW426 := n3_; have GE426 := n4_; have NB425_426 := n5_; have NB426_425 := n6_; clear n0_ n1_ n2_ n3_ n4_ n5_ n6_; clear hb hbox hg; have hnb7 := NB425_426.out; have hnc7 := NB426_425.out; have hcz8_0 : w6.cell? ⟨gb425, 0, none⟩ = some (.int .i64 a0_0) := (blk_cell BK425.out 0).trans rfl; have hcz8_1 : w6.cell? ⟨gb425, 1, none⟩ = some (.int .i64 a0_1) := (blk_cell BK425.out 1).trans rfl; have hcz8_2 : w6.cell? ⟨gb425, 2, none⟩ = some (.int .u64 a0_2) := (blk_cell BK425.out 2).trans rfl; have hfz8_0 := blk_frozen BK425.out 0; have hfz8_1 := blk_frozen BK425.out 1; have hfz8_2 := blk_frozen BK425.out 2; have hcz9_0 : w6.cell? ⟨gb426, 0, none⟩ = some (.bool false) := (blk_cell BK426.out 0).trans rfl; have hcz9_1 : w6.cell? ⟨gb426, 1, none⟩ = some (.slice none 0 0) := (blk_cell BK426.out 1).trans rfl; have hcz9_2 : w6.cell? ⟨gb426, 2, none⟩ = some (.int .i64 0) := (blk_cell BK426.out 2).trans rfl; have hfz9_0 := blk_frozen BK426.out 0; have hfz9_1 := blk_frozen BK426.out 1; have hfz9_2 := blk_frozen BK426.out 2))
  refine bodyPost_ret (results_ct rfl _ _ gb426 43 #[.bool false, .slice none 0 0, .int .i64 0] (0, 0) _ rfl (by (with_reducible repeat (first | apply bN | apply bD | apply bA)); refine blk_put (cs := #[.bool false, .slice none 0 0, .int .i64 0]) ?_ 2 _ rfl; (with_reducible repeat (first | apply bN | apply bD | apply bA)); refine blk_put (cs := #[.bool false, .slice none 0 0, .int .i64 0]) ?_ 1 _ rfl; (with_reducible repeat (first | apply bN | apply bD | apply bA)); refine blk_put (cs := #[.bool false, .slice none 0 0, .int .i64 0]) ?_ 0 _ rfl; (with_reducible repeat (first | apply bN | apply bD | apply bA)); exact BK426.out) Try.underlying43 rfl (by kernel_rfl)) rfl ?_
  exact ⟨_, by first | rfl | (simp [errW_none, errW_some] <;> rfl) | (simp [*, errW_none, errW_some] <;> rfl), by first | exact Kd.R_nil _ _ _ _ _ | exact Kd.N_nil _ _ _ _ _ | exact Kd.V_nil _ _ _ _ _ | exact Kd.Q_nil _ _ _ _ _ | exact Kd.S_nil _ _ _ _ _, bl_ HB⟩
 ·rw [if_neg c4] at H
  have c4b0 : decide (a0_2 ≤ a2) = false := decide_eq_false c4
  clear c4
  obtain ⟨⟨t427, t430⟩, A10, H⟩ := ob_ H
  try dsimp only at H
  obtain ⟨⟨t431, t432, t435, t436⟩, A11, H⟩ := ob_ H
  try dsimp only at H
  simp only [Option.some.injEq, Prod.mk.injEq] at H
  obtain ⟨rfl, rfl, rfl, rfl⟩ := H
  go_enter Try.func72, Try.ntmps72
  go_wp2_with (first | ((with_reducible refine gate_dst (N := 3) rfl ?_); refine box_event ?hg (N := 3) ?hd (cs := #[.int .i64 a0_0, .int .i64 a0_1, .int .u64 a0_2]) (t := 83) ?hr ?_; (case hd => rfl); (case hg => rfl); (case hr => first | (go_simp; done) | (go_simp; rfl)); intro gb425 hg w12 hbox hb; have n0_ := bs_ HB hb; have n1_ := Aside0.mk (hbox); have n2_ := ge_ HB hg; have n3_ := ge_ HB hg; clear HB; have HB := n0_; have BK425 := n1_; have GW425 := n2_; have GE425 := n3_; clear n0_ n1_ n2_ n3_; clear hb hbox hg) | ((with_reducible refine gate_dst (N := 6) rfl ?_); refine box_event ?hg (N := 6) ?hd (cs := #[.bool false, .slice none 0 0, .int .i64 0]) (t := 43) ?hr ?_; (case hd => rfl); (case hg => rfl); (case hr => first | (go_simp; done) | (go_simp; rfl)); intro gb426 hg w13 hbox hb; have n0_ := kb_ BK425 hb; have n1_ := bs_ HB hb; have n2_ := Aside0.mk (hbox); have n3_ := ge_ HB hg; have n4_ := ge_ HB hg; have n5_ := nlt_ BK425 hg; have n6_ := ngt_ BK425 hg; clear BK425; clear HB; have BK425 := n0_; have HB := n1_; have BK426 := n2_; have GW426 := n3_; have GE426 := n4_; have NB425_426 := n5_; have NB426_425 := n6_; clear n0_ n1_ n2_ n3_ n4_ n5_ n6_; clear hb hbox hg; have hnb14 := NB425_426.out; have hnc14 := NB426_425.out; have hcz15_0 : w13.cell? ⟨gb425, 0, none⟩ = some (.int .i64 a0_0) := (blk_cell BK425.out 0).trans rfl; have hcz15_1 : w13.cell? ⟨gb425, 1, none⟩ = some (.int .i64 a0_1) := (blk_cell BK425.out 1).trans rfl; have hcz15_2 : w13.cell? ⟨gb425, 2, none⟩ = some (.int .u64 a0_2) := (blk_cell BK425.out 2).trans rfl; have hfz15_0 := blk_frozen BK425.out 0; have hfz15_1 := blk_frozen BK425.out 1; have hfz15_2 := blk_frozen BK425.out 2) | ((with_reducible refine gate_callee (f := 82) rfl ?_); refine goesM (some 18) Try.func82 #[.agg #[.int .i64 a0_0, .int .i64 a0_1, .int .u64 a0_2], .int .u64 a2] ?_; (with_reducible refine (steelyardref03_Size_Number.calls k a0_0 a0_1 a0_2 a2 t427 t430 _ A10.out).mono ?_); rintro e w16 ⟨v428, rfl, ho0, hb⟩; refine ⟨_, rfl, ?_⟩; have n0_ := Aside0.mk (Kd.R_lower ho0 (below_size (bl_ HB))); have n1_ := kb_ BK425 hb; have n2_ := kb_ BK426 hb; have n3_ := bs_ HB hb; clear BK425; clear BK426; clear HB; have HO429 := n0_; have BK425 := n1_; have BK426 := n2_; have HB := n3_; clear n0_ n1_ n2_ n3_; (try clear hb); (try clear hb2); (try clear hk); (try clear hi); (try clear ho0); obtain ⟨Ao17, co17, eo17⟩ := Kd.R_slice HO429.out; subst eo17) | ((with_reducible refine gate_callee (f := 76) rfl ?_); refine goesM (some 24) Try.func76 #[.bool a1, .slice Ao17 t427.length co17, .int .i64 t430] ?_; (with_reducible refine (steelyardref03_Form.calls k a1 _ _ t427 t430 t431 t432 t435 t436 _ ?side1 ?side2 A11.out).mono ?_); (case side1 => repeat (first | exact (Kd.R_reads' HO429.out).2.2 | (with_reducible first | apply cA | apply cN | apply cD))); (case side2 => exact (Kd.R_reads' HO429.out).2.1); rintro e w18 ⟨v433, rfl, ho0, hb⟩; refine ⟨_, rfl, ?_⟩; have n0_ := Aside0.mk (Kd.R_elder' (by (with_reducible repeat (first | apply rA | apply rN | apply rD)); exact HO429.out) (Kd.R_base ho0) hb); have n1_ := Aside0.mk (Kd.R_lower (Kd.R_new' ho0 (Kd.R_lt (by (with_reducible repeat (first | apply rA | apply rN | apply rD)); exact HO429.out))) (below_size (bl_ HB))); have n2_ := kb_ BK425 hb; have n3_ := kb_ BK426 hb; have n4_ := bs_ HB hb; clear HO429; clear BK425; clear BK426; clear HB; have HO429 := n0_; have HO434 := n1_; have BK425 := n2_; have BK426 := n3_; have HB := n4_; clear n0_ n1_ n2_ n3_ n4_; (try clear hb); (try clear hb2); (try clear hk); (try clear hi); (try clear ho0); have hcz19_0 : w18.cell? ⟨gb426, 0, none⟩ = some (.bool false) := (blk_cell BK426.out 0).trans rfl; have hcz19_1 : w18.cell? ⟨gb426, 1, none⟩ = some (.slice none 0 0) := (blk_cell BK426.out 1).trans rfl; have hcz19_2 : w18.cell? ⟨gb426, 2, none⟩ = some (.int .i64 0) := (blk_cell BK426.out 2).trans rfl; have hfz19_0 := blk_frozen BK426.out 0; have hfz19_1 := blk_frozen BK426.out 1; have hfz19_2 := blk_frozen BK426.out 2; obtain ⟨Ao20, co20, eo20⟩ := Kd.R_slice HO434.out; subst eo20))
  refine bodyPost_ret (results_ct rfl _ _ gb426 43 #[.bool t431, .slice Ao20 t432.length co20, .int .i64 t435] (0, 0) _ rfl (by (with_reducible repeat (first | apply bN | apply bD | apply bA)); refine blk_put (cs := #[.bool t431, .slice Ao20 t432.length co20, .int .i64 0]) ?_ 2 _ rfl; (with_reducible repeat (first | apply bN | apply bD | apply bA)); refine blk_put (cs := #[.bool t431, .slice none 0 0, .int .i64 0]) ?_ 1 _ rfl; (with_reducible repeat (first | apply bN | apply bD | apply bA)); refine blk_put (cs := #[.bool false, .slice none 0 0, .int .i64 0]) ?_ 0 _ rfl; (with_reducible repeat (first | apply bN | apply bD | apply bA)); exact BK426.out) Try.underlying43 rfl (by kernel_rfl)) rfl ?_
  exact ⟨_, by first | rfl | (simp [errW_none, errW_some] <;> rfl) | (simp [*, errW_none, errW_some] <;> rfl), by (with_reducible repeat (first | apply rA | apply rN | apply rD)); exact Kd.R_mono (Kd.R_far (p := ⟨gb426, 2, none⟩) (Kd.R_far (p := ⟨gb426, 1, none⟩) (Kd.R_far (p := ⟨gb426, 0, none⟩) (Kd.R_types HO434.out BK426.out (by decide)) (fun _ hk => hk.2) (.bool t431)) (fun _ hk => hk.2) (.slice Ao20 t432.length co20)) (fun _ hk => hk.2) (.int .i64 t435)) (fun _ hk => trivial), bl_ HB⟩

/-! ### steelyardref03_Of: function 50 -/
def steelyardref03_Of.f (k : Nat) (a0 : Nat) : Option (Bool × List Int × Int × Int) := (steelyardref03_Of64.f).bind fun bt438 => ((steelyardref03_Size_Bits.f k bt438.1 bt438.2.1 bt438.2.2 (((a0 : Int) / 9223372036854775808) == 1) ((IntKind.u64.wrap ((a0 : Int) * 2)) / 2)).bind fun bt441 => (if bt441.2.2.2 = true then (some (bt441.1, bt441.2.1, bt441.2.2.1, 0)) else (some (false, ([] : List Int), 0, 30))))
theorem steelyardref03_Of.mono : ∀ a0 k, LeO (steelyardref03_Of.f k a0) (steelyardref03_Of.f (k + 1) a0) := by
 intro a0 k
 unfold steelyardref03_Of.f
 repeat' first
   | (with_reducible exact steelyardref03_Size_Bits.mono _ _ _ _ _ _)
   | (with_reducible exact LeO.refl _)
   | (with_reducible exact LeO.none _)
   | (with_reducible refine LeO.ite ?_ ?_)
   | (with_reducible refine LeO.bind ?_ (fun _ => ?_))
   | exact steelyardref03_Size_Bits.mono _ _ _ _ _ _
   | exact LeO.none _
   | refine LeO.ite ?_ ?_
   | refine LeO.bind ?_ (fun _ => ?_)
set_option maxHeartbeats 3000000 in
set_option maxRecDepth 100000 in
theorem steelyardref03_Of.calls (k : Nat) (a0 : Nat) (r1 : Bool) (r2 : List Int) (r3 : Int) (r4 : Int) (w : World) (h : steelyardref03_Of.f k a0 = some (r1, r2, r3, r4)) :
  Calls Try.prog 50 #[.float .f64 a0] w fun e w' => ∃ v1_ : Value, e = .returned (.tuple #[.agg #[.bool r1, v1_, .int .i64 r3], .int .i64 r4]) ∧ Kd.R (Kd.int .u32) 72 w' w.heap.size (fun _ => True) v1_ r2 ∧ Below w.heap.size w w' := by
 have hu43 := Try.underlying43
 have HB := Aside0.mk (Below.refl w.heap.size w)
 have H : ((steelyardref03_Of64.f).bind fun bt438 => ((steelyardref03_Size_Bits.f k bt438.1 bt438.2.1 bt438.2.2 (((a0 : Int) / 9223372036854775808) == 1) ((IntKind.u64.wrap ((a0 : Int) * 2)) / 2)).bind fun bt441 => (if bt441.2.2.2 = true then (some (bt441.1, bt441.2.1, bt441.2.2.1, 0)) else (some (false, ([] : List Int), 0, 30))))) = some (r1, r2, r3, r4) := h
 clear h
 obtain ⟨⟨t438, t439, t440⟩, A2, H⟩ := ob_ H
 try dsimp only at H
 obtain ⟨⟨t441, t442, t445, t446⟩, A3, H⟩ := ob_ H
 try dsimp only at H
 by_cases c4 : t446 = true
 ·subst c4
  have H1 : (some (t441, t442, t445, 0)) = some (r1, r2, r3, r4) := by rw [if_pos rfl] at H; exact H
  clear H
  have H := H1
  clear H1
  simp only [Option.some.injEq, Prod.mk.injEq] at H
  obtain ⟨rfl, rfl, rfl, rfl⟩ := H
  go_enter Try.func50, Try.ntmps50
  go_wp2_with (first | ((with_reducible refine gate_dst (N := 2) rfl ?_); refine box_event ?hg (N := 2) ?hd (cs := #[.bool false, .slice none 0 0, .int .i64 0]) (t := 43) ?hr ?_; (case hd => rfl); (case hg => rfl); (case hr => first | (go_simp; done) | (go_simp; rfl)); intro gb437 hg w5 hbox hb; have n0_ := bs_ HB hb; have n1_ := Aside0.mk (hbox); have n2_ := ge_ HB hg; have n3_ := ge_ HB hg; clear HB; have HB := n0_; have BK437 := n1_; have GW437 := n2_; have GE437 := n3_; clear n0_ n1_ n2_ n3_; clear hb hbox hg) | ((with_reducible refine gate_callee (f := 71) rfl ?_); refine goesM (some 10) Try.func71 #[] ?_; (with_reducible refine (steelyardref03_Of64.calls  t438 t439 t440 _ A2.out).mono ?_); rintro e w6 ⟨rfl, hb⟩; refine ⟨_, rfl, ?_⟩; have n0_ := kb_ BK437 hb; have n1_ := bs_ HB hb; clear BK437; clear HB; have BK437 := n0_; have HB := n1_; clear n0_ n1_; (try clear hb); (try clear hb2); (try clear hk); (try clear hi)) | ((with_reducible refine gate_callee (f := 72) rfl ?_); refine goesM (some 17) Try.func72 #[.agg #[.int .i64 t438, .int .i64 t439, .int .u64 t440], .bool (((a0 : Int) / 9223372036854775808) == 1), .int .u64 ((IntKind.u64.wrap ((a0 : Int) * 2)) / 2)] ?_; (with_reducible refine (steelyardref03_Size_Bits.calls k t438 t439 t440 (((a0 : Int) / 9223372036854775808) == 1) ((IntKind.u64.wrap ((a0 : Int) * 2)) / 2) t441 t442 t445 true _ A3.out).mono ?_); rintro e w7 ⟨v443, rfl, ho0, hb⟩; refine ⟨_, rfl, ?_⟩; have n0_ := Aside0.mk (Kd.R_lower ho0 (below_size (bl_ HB))); have n1_ := kb_ BK437 hb; have n2_ := bs_ HB hb; clear BK437; clear HB; have HO444 := n0_; have BK437 := n1_; have HB := n2_; clear n0_ n1_ n2_; (try clear hb); (try clear hb2); (try clear hk); (try clear hi); (try clear ho0)) | ((with_reducible refine gate_dst (N := 5) rfl ?_); refine box_event ?hg (N := 5) ?hd (cs := #[.bool false, .slice none 0 0, .int .i64 0]) (t := 43) ?hr ?_; (case hd => rfl); (case hg => rfl); (case hr => first | (go_simp; done) | (go_simp; rfl)); intro gb447 hg w8 hbox hb; have n0_ := Aside0.mk (Kd.R_below (by (with_reducible repeat (first | apply rA | apply rN | apply rD)); exact HO444.out) hb); have n1_ := kb_ BK437 hb; have n2_ := bs_ HB hb; have n3_ := Aside0.mk (hbox); have n4_ := ge_ HB hg; have n5_ := ge_ HB hg; have n6_ := nlt_ BK437 hg; have n7_ := ngt_ BK437 hg; clear HO444; clear BK437; clear HB; have HO444 := n0_; have BK437 := n1_; have HB := n2_; have BK447 := n3_; have GW447 := n4_; have GE447 := n5_; have NB437_447 := n6_; have NB447_437 := n7_; clear n0_ n1_ n2_ n3_ n4_ n5_ n6_ n7_; clear hb hbox hg; have hnb9 := NB447_437.out; have hnc9 := NB437_447.out; have hcz10_0 : w8.cell? ⟨gb447, 0, none⟩ = some (.bool false) := (blk_cell BK447.out 0).trans rfl; have hcz10_1 : w8.cell? ⟨gb447, 1, none⟩ = some (.slice none 0 0) := (blk_cell BK447.out 1).trans rfl; have hcz10_2 : w8.cell? ⟨gb447, 2, none⟩ = some (.int .i64 0) := (blk_cell BK447.out 2).trans rfl; have hfz10_0 := blk_frozen BK447.out 0; have hfz10_1 := blk_frozen BK447.out 1; have hfz10_2 := blk_frozen BK447.out 2; obtain ⟨Ao11, co11, eo11⟩ := Kd.R_slice HO444.out; subst eo11; have hcz12_0 : w8.cell? ⟨gb437, 0, none⟩ = some (.bool false) := (blk_cell BK437.out 0).trans rfl; have hcz12_1 : w8.cell? ⟨gb437, 1, none⟩ = some (.slice none 0 0) := (blk_cell BK437.out 1).trans rfl; have hcz12_2 : w8.cell? ⟨gb437, 2, none⟩ = some (.int .i64 0) := (blk_cell BK437.out 2).trans rfl; have hfz12_0 := blk_frozen BK437.out 0; have hfz12_1 := blk_frozen BK437.out 1; have hfz12_2 := blk_frozen BK437.out 2))
  refine bodyPost_ret (results_ct rfl _ _ gb437 43 #[.bool t441, .slice Ao11 t442.length co11, .int .i64 t445] (0, 0) _ rfl (by (with_reducible repeat (first | apply bN | apply bD | apply bA)); refine blk_put (cs := #[.bool t441, .slice Ao11 t442.length co11, .int .i64 0]) ?_ 2 _ rfl; (with_reducible repeat (first | apply bN | apply bD | apply bA)); refine blk_put (cs := #[.bool t441, .slice none 0 0, .int .i64 0]) ?_ 1 _ rfl; (with_reducible repeat (first | apply bN | apply bD | apply bA)); refine blk_put (cs := #[.bool false, .slice none 0 0, .int .i64 0]) ?_ 0 _ rfl; (with_reducible repeat (first | apply bN | apply bD | apply bA)); refine blk_far ?_ NB437_447.out _; (with_reducible repeat (first | apply bN | apply bD | apply bA)); refine blk_far ?_ NB437_447.out _; (with_reducible repeat (first | apply bN | apply bD | apply bA)); refine blk_far ?_ NB437_447.out _; (with_reducible repeat (first | apply bN | apply bD | apply bA)); exact BK437.out) Try.underlying43 rfl (by kernel_rfl)) rfl ?_
  exact ⟨_, by first | rfl | (simp [errW_none, errW_some] <;> rfl) | (simp [*, errW_none, errW_some] <;> rfl), by (with_reducible repeat (first | apply rA | apply rN | apply rD)); exact Kd.R_mono (Kd.R_far (p := ⟨gb437, 2, none⟩) (Kd.R_far (p := ⟨gb437, 1, none⟩) (Kd.R_far (p := ⟨gb437, 0, none⟩) (Kd.R_far (p := ⟨gb447, 2, none⟩) (Kd.R_far (p := ⟨gb447, 1, none⟩) (Kd.R_far (p := ⟨gb447, 0, none⟩) (Kd.R_types (Kd.R_types HO444.out BK447.out (by decide)) BK437.out (by decide)) (fun _ hk => hk.1.2) (.bool t441)) (fun _ hk => hk.1.2) (.slice Ao11 t442.length co11)) (fun _ hk => hk.1.2) (.int .i64 t445)) (fun _ hk => hk.2) (.bool t441)) (fun _ hk => hk.2) (.slice Ao11 t442.length co11)) (fun _ hk => hk.2) (.int .i64 t445)) (fun _ hk => trivial), bl_ HB⟩
 ·replace c4 := Bool.eq_false_iff.mpr c4
  subst c4
  have H1 : (some (false, ([] : List Int), 0, 30)) = some (r1, r2, r3, r4) := by rw [if_neg (show ¬ (false = true) by decide)] at H; exact H
  clear H
  have H := H1
  clear H1
  simp only [Option.some.injEq, Prod.mk.injEq] at H
  obtain ⟨rfl, rfl, rfl, rfl⟩ := H
  go_enter Try.func50, Try.ntmps50
  go_wp2_with (first | ((with_reducible refine gate_dst (N := 2) rfl ?_); refine box_event ?hg (N := 2) ?hd (cs := #[.bool false, .slice none 0 0, .int .i64 0]) (t := 43) ?hr ?_; (case hd => rfl); (case hg => rfl); (case hr => first | (go_simp; done) | (go_simp; rfl)); intro gb437 hg w13 hbox hb; have n0_ := bs_ HB hb; have n1_ := Aside0.mk (hbox); have n2_ := ge_ HB hg; have n3_ := ge_ HB hg; clear HB; have HB := n0_; have BK437 := n1_; have GW437 := n2_; have GE437 := n3_; clear n0_ n1_ n2_ n3_; clear hb hbox hg) | ((with_reducible refine gate_callee (f := 71) rfl ?_); refine goesM (some 10) Try.func71 #[] ?_; (with_reducible refine (steelyardref03_Of64.calls  t438 t439 t440 _ A2.out).mono ?_); rintro e w14 ⟨rfl, hb⟩; refine ⟨_, rfl, ?_⟩; have n0_ := kb_ BK437 hb; have n1_ := bs_ HB hb; clear BK437; clear HB; have BK437 := n0_; have HB := n1_; clear n0_ n1_; (try clear hb); (try clear hb2); (try clear hk); (try clear hi)) | ((with_reducible refine gate_callee (f := 72) rfl ?_); refine goesM (some 17) Try.func72 #[.agg #[.int .i64 t438, .int .i64 t439, .int .u64 t440], .bool (((a0 : Int) / 9223372036854775808) == 1), .int .u64 ((IntKind.u64.wrap ((a0 : Int) * 2)) / 2)] ?_; (with_reducible refine (steelyardref03_Size_Bits.calls k t438 t439 t440 (((a0 : Int) / 9223372036854775808) == 1) ((IntKind.u64.wrap ((a0 : Int) * 2)) / 2) t441 t442 t445 false _ A3.out).mono ?_); rintro e w15 ⟨v443, rfl, ho0, hb⟩; refine ⟨_, rfl, ?_⟩; have n0_ := Aside0.mk (Kd.R_lower ho0 (below_size (bl_ HB))); have n1_ := kb_ BK437 hb; have n2_ := bs_ HB hb; clear BK437; clear HB; have HO444 := n0_; have BK437 := n1_; have HB := n2_; clear n0_ n1_ n2_; (try clear hb); (try clear hb2); (try clear hk); (try clear hi); (try clear ho0)) | ((with_reducible refine gate_dst (N := 5) rfl ?_); refine box_event ?hg (N := 5) ?hd (cs := #[.bool false, .slice none 0 0, .int .i64 0]) (t := 43) ?hr ?_; (case hd => rfl); (case hg => rfl); (case hr => first | (go_simp; done) | (go_simp; rfl)); intro gb447 hg w16 hbox hb; have n0_ := Aside0.mk (Kd.R_below (by (with_reducible repeat (first | apply rA | apply rN | apply rD)); exact HO444.out) hb); have n1_ := kb_ BK437 hb; have n2_ := bs_ HB hb; have n3_ := Aside0.mk (hbox); have n4_ := ge_ HB hg; have n5_ := ge_ HB hg; have n6_ := nlt_ BK437 hg; have n7_ := ngt_ BK437 hg; clear HO444; clear BK437; clear HB; have HO444 := n0_; have BK437 := n1_; have HB := n2_; have BK447 := n3_; have GW447 := n4_; have GE447 := n5_; have NB437_447 := n6_; have NB447_437 := n7_; clear n0_ n1_ n2_ n3_ n4_ n5_ n6_ n7_; clear hb hbox hg; have hnb17 := NB447_437.out; have hnc17 := NB437_447.out; have hcz18_0 : w16.cell? ⟨gb447, 0, none⟩ = some (.bool false) := (blk_cell BK447.out 0).trans rfl; have hcz18_1 : w16.cell? ⟨gb447, 1, none⟩ = some (.slice none 0 0) := (blk_cell BK447.out 1).trans rfl; have hcz18_2 : w16.cell? ⟨gb447, 2, none⟩ = some (.int .i64 0) := (blk_cell BK447.out 2).trans rfl; have hfz18_0 := blk_frozen BK447.out 0; have hfz18_1 := blk_frozen BK447.out 1; have hfz18_2 := blk_frozen BK447.out 2; obtain ⟨Ao19, co19, eo19⟩ := Kd.R_slice HO444.out; subst eo19; have hcz20_0 : w16.cell? ⟨gb437, 0, none⟩ = some (.bool false) := (blk_cell BK437.out 0).trans rfl; have hcz20_1 : w16.cell? ⟨gb437, 1, none⟩ = some (.slice none 0 0) := (blk_cell BK437.out 1).trans rfl; have hcz20_2 : w16.cell? ⟨gb437, 2, none⟩ = some (.int .i64 0) := (blk_cell BK437.out 2).trans rfl; have hfz20_0 := blk_frozen BK437.out 0; have hfz20_1 := blk_frozen BK437.out 1; have hfz20_2 := blk_frozen BK437.out 2))
  refine bodyPost_ret (results_ct rfl _ _ gb437 43 #[.bool false, .slice none 0 0, .int .i64 0] (0, 0) _ rfl (by (with_reducible repeat (first | apply bN | apply bD | apply bA)); refine blk_put (cs := #[.bool false, .slice none 0 0, .int .i64 0]) ?_ 2 _ rfl; (with_reducible repeat (first | apply bN | apply bD | apply bA)); refine blk_put (cs := #[.bool false, .slice none 0 0, .int .i64 0]) ?_ 1 _ rfl; (with_reducible repeat (first | apply bN | apply bD | apply bA)); refine blk_put (cs := #[.bool false, .slice none 0 0, .int .i64 0]) ?_ 0 _ rfl; (with_reducible repeat (first | apply bN | apply bD | apply bA)); refine blk_far ?_ NB437_447.out _; (with_reducible repeat (first | apply bN | apply bD | apply bA)); refine blk_far ?_ NB437_447.out _; (with_reducible repeat (first | apply bN | apply bD | apply bA)); refine blk_far ?_ NB437_447.out _; (with_reducible repeat (first | apply bN | apply bD | apply bA)); exact BK437.out) Try.underlying43 rfl (by kernel_rfl)) rfl ?_
  exact ⟨_, by first | rfl | (simp [errW_none, errW_some] <;> rfl) | (simp [*, errW_none, errW_some] <;> rfl), by first | exact Kd.R_nil _ _ _ _ _ | exact Kd.N_nil _ _ _ _ _ | exact Kd.V_nil _ _ _ _ _ | exact Kd.Q_nil _ _ _ _ _ | exact Kd.S_nil _ _ _ _ _, bl_ HB⟩

/-! ### steelyardref05_IsOdd: function 66 -/
def steelyardref05_IsOdd.f (a0 : Nat) : Option (Bool) := some (decide ((Go.bits .andNot .u64 (a0 : Int) 9223372036854775808) > 9218868437227405312))
set_option maxHeartbeats 3000000 in
set_option maxRecDepth 100000 in
theorem steelyardref05_IsOdd.calls (a0 : Nat) (r : Bool) (w : World) (h : steelyardref05_IsOdd.f a0 = some r) :
  Calls Try.prog 66 #[.float .f64 a0] w fun e w' => e = .returned (.bool r) ∧ Drawn0 w w' := by
 have H : (some (decide ((Go.bits .andNot .u64 (a0 : Int) 9223372036854775808) > 9218868437227405312))) = some r := h
 clear h
 obtain rfl := Option.some.inj H
 go_enter Try.func66, Try.ntmps66
 go_wp2
 go_ret
 exact ⟨by first | rfl | (simp; done) | (simp [*]; done), by repeat (first | exact Drawn0.refl _ | apply Drawn0.step)⟩

/-! ### steelyardref05_IsEndless: function 67 -/
def steelyardref05_IsEndless.f (a0 : Nat) : Option (Bool) := some ((Go.bits .andNot .u64 (a0 : Int) 9223372036854775808) == 9218868437227405312)
set_option maxHeartbeats 3000000 in
set_option maxRecDepth 100000 in
theorem steelyardref05_IsEndless.calls (a0 : Nat) (r : Bool) (w : World) (h : steelyardref05_IsEndless.f a0 = some r) :
  Calls Try.prog 67 #[.float .f64 a0] w fun e w' => e = .returned (.bool r) ∧ Drawn0 w w' := by
 have H : (some ((Go.bits .andNot .u64 (a0 : Int) 9223372036854775808) == 9218868437227405312)) = some r := h
 clear h
 obtain rfl := Option.some.inj H
 go_enter Try.func67, Try.ntmps67
 go_wp2
 go_ret
 exact ⟨by first | rfl | (simp; done) | (simp [*]; done), by repeat (first | exact Drawn0.refl _ | apply Drawn0.step)⟩

/-! ### steelyardref05_Neg: function 68 -/
def steelyardref05_Neg.f (a0 : Nat) : Option (Bool) := some ((Go.bits .and .u64 (a0 : Int) 9223372036854775808) != 0)
set_option maxHeartbeats 3000000 in
set_option maxRecDepth 100000 in
theorem steelyardref05_Neg.calls (a0 : Nat) (r : Bool) (w : World) (h : steelyardref05_Neg.f a0 = some r) :
  Calls Try.prog 68 #[.float .f64 a0] w fun e w' => e = .returned (.bool r) ∧ Drawn0 w w' := by
 have H : (some ((Go.bits .and .u64 (a0 : Int) 9223372036854775808) != 0)) = some r := h
 clear h
 obtain rfl := Option.some.inj H
 go_enter Try.func68, Try.ntmps68
 go_wp2
 go_ret
 exact ⟨by first | rfl | (simp; done) | (simp [*]; done), by repeat (first | exact Drawn0.refl _ | apply Drawn0.step)⟩

/-! ### steelyardref05_signed: function 69 -/
def steelyardref05_signed.f (a0 : Int) (a1 : Bool) : Option (Nat) := if a1 = true then (some ((Go.bits .or .u64 a0 9223372036854775808 : Int).toNat)) else (some ((a0 : Int).toNat))
set_option maxHeartbeats 3000000 in
set_option maxRecDepth 100000 in
theorem steelyardref05_signed.calls (a0 : Int) (a1 : Bool) (r : Nat) (w : World) (h : steelyardref05_signed.f a0 a1 = some r) :
  Calls Try.prog 69 #[.int .u64 a0, .bool a1] w fun e w' => e = .returned (.float .f64 r) ∧ Drawn0 w w' := by
 have H : (if a1 = true then (some ((Go.bits .or .u64 a0 9223372036854775808 : Int).toNat)) else (some ((a0 : Int).toNat))) = some r := h
 clear h
 by_cases c3 : a1 = true
 ·subst c3
  have H1 : (some ((Go.bits .or .u64 a0 9223372036854775808 : Int).toNat)) = some r := by rw [if_pos rfl] at H; exact H
  clear H
  have H := H1
  clear H1
  obtain rfl := Option.some.inj H
  go_enter Try.func69, Try.ntmps69
  go_wp2
  go_ret
  exact ⟨by first | rfl | (simp; done) | (simp [*]; done), by repeat (first | exact Drawn0.refl _ | apply Drawn0.step)⟩
 ·replace c3 := Bool.eq_false_iff.mpr c3
  subst c3
  have H1 : (some ((a0 : Int).toNat)) = some r := by rw [if_neg (show ¬ (false = true) by decide)] at H; exact H
  clear H
  have H := H1
  clear H1
  obtain rfl := Option.some.inj H
  go_enter Try.func69, Try.ntmps69
  go_wp2
  go_ret
  exact ⟨by first | rfl | (simp; done) | (simp [*]; done), by repeat (first | exact Drawn0.refl _ | apply Drawn0.step)⟩

/-! ### steelyardref02_Len: function 55 -/
def steelyardref02_Len.l0 : Nat → Int → Int → Option (Int)
 | 0, _, _ => none
 | k + 1, x4, x5 => if x5 > 0 then (steelyardref02_Len.l0 k (wrap64 (x4 + 1)) ((Int.tdiv x5 2) % 4294967296)) else (some x4)
def steelyardref02_Len.f (k : Nat) (l0 : List Int) : Option (Int) := (steelyardref02_size.f k l0).bind fun t448 => (if t448 = 0 then (some 0) else (if 0 ≤ (wrap64 (t448 - 1)) then (if (wrap64 (t448 - 1)) < (l0.length : Int) then (steelyardref02_Len.l0 k (wrap64 (32 * (wrap64 (t448 - 1)))) (rd l0 (wrap64 (t448 - 1)))) else (none)) else (none)))
theorem steelyardref02_Len.mono_l : ∀ k, (∀ y0 y1, LeO (steelyardref02_Len.l0 k y0 y1) (steelyardref02_Len.l0 (k + 1) y0 y1))
 | 0 => fun _ _ r h => by simp [steelyardref02_Len.l0] at h
 | k + 1 => by
  have ih0 := steelyardref02_Len.mono_l k
  ·intro y0 y1
   unfold steelyardref02_Len.l0
   repeat' first
   | (with_reducible exact ih0 _ _)
   | (with_reducible exact steelyardref02_size.mono _ _)
   | (with_reducible exact LeO.refl _)
   | (with_reducible exact LeO.none _)
   | (with_reducible refine LeO.ite ?_ ?_)
   | (with_reducible refine LeO.bind ?_ (fun _ => ?_))
   | exact ih0 _ _
   | exact steelyardref02_size.mono _ _
   | exact LeO.none _
   | refine LeO.ite ?_ ?_
   | refine LeO.bind ?_ (fun _ => ?_)
theorem steelyardref02_Len.mono : ∀ a0 k, LeO (steelyardref02_Len.f k a0) (steelyardref02_Len.f (k + 1) a0) := by
 intro a0 k
 have ih0 := steelyardref02_Len.mono_l k
 unfold steelyardref02_Len.f
 repeat' first
   | (with_reducible exact ih0 _ _)
   | (with_reducible exact steelyardref02_size.mono _ _)
   | (with_reducible exact LeO.refl _)
   | (with_reducible exact LeO.none _)
   | (with_reducible refine LeO.ite ?_ ?_)
   | (with_reducible refine LeO.bind ?_ (fun _ => ?_))
   | exact ih0 _ _
   | exact steelyardref02_size.mono _ _
   | exact LeO.none _
   | refine LeO.ite ?_ ?_
   | refine LeO.bind ?_ (fun _ => ?_)
set_option maxHeartbeats 3000000 in
set_option maxRecDepth 100000 in
theorem steelyardref02_Len.calls (k : Nat) (A0 : Option Addr) (c0 : Nat) (l0 : List Int) (r : Int) (w : World) (hr0 : Kd.C (Kd.int .u32) w A0 l0.length l0) (hc0 : l0.length ≤ c0) (h : steelyardref02_Len.f k l0 = some r) :
  Calls Try.prog 55 #[.slice A0 l0.length c0] w fun e w' => e = .returned (.int .i64 r) ∧ Drawn0 w w' := by
 have HR0 := Aside0.mk hr0
 have HC0 := Aside0.mk hc0
 clear hr0 hc0
 have H : ((steelyardref02_size.f k l0).bind fun t448 => (if t448 = 0 then (some 0) else (if 0 ≤ (wrap64 (t448 - 1)) then (if (wrap64 (t448 - 1)) < (l0.length : Int) then (steelyardref02_Len.l0 k (wrap64 (32 * (wrap64 (t448 - 1)))) (rd l0 (wrap64 (t448 - 1)))) else (none)) else (none)))) = some r := h
 clear h
 obtain ⟨t448, A2, H⟩ := ob_ H
 try dsimp only at H
 by_cases c3 : t448 = 0
 ·rw [if_pos c3] at H
  have c3b0 : (t448 == 0) = true := beq_iff_eq.mpr c3
  have c3b1 : (t448 != 0) = false := bne_eq_false_iff_eq.mpr c3
  clear c3
  obtain rfl := Option.some.inj H
  go_enter Try.func55, Try.ntmps55
  go_wp2_with (first | ((with_reducible refine gate_callee (f := 75) rfl ?_); refine goesM (some 7) Try.func75 #[.slice A0 l0.length c0] ?_; (with_reducible refine (steelyardref02_size.calls k _ _ l0 t448 _ ?side1 ?side2 A2.out).mono ?_); (case side1 => repeat (first | exact HR0.out | (with_reducible first | apply cA | apply cN | apply cD))); (case side2 => exact HC0.out); rintro e w' ⟨rfl, ⟨nd, rfl⟩⟩; refine ⟨_, rfl, ?_⟩))
  go_ret
  exact ⟨by first | rfl | (simp; done) | (simp [*]; done), by repeat (first | exact Drawn0.refl _ | apply Drawn0.step)⟩
 ·rw [if_neg c3] at H
  have c3b0 : (t448 == 0) = false := beq_eq_false_iff_ne.mpr c3
  have c3b1 : (t448 != 0) = true := bne_iff_ne.mpr c3
  obtain ⟨ji4, hji4⟩ : ∃ j_ : Int, (wrap64 (t448 - 1)) = j_ := ⟨_, rfl⟩
  replace H : (if 0 ≤ (ji4) then (if (ji4) < (l0.length : Int) then (steelyardref02_Len.l0 k (wrap64 (32 * (ji4))) (rd l0 (ji4))) else (none)) else (none)) = some r := by first | (rw [hji4] at H; exact H) | (simp only [hji4] at H ⊢; exact H)
  (try rw [hji4] at A2)
  have hji4w : (IntKind.i64.wrap (t448 - 1)) = ji4 := (i64_w _).trans hji4
  by_cases c5 : 0 ≤ (ji4)
  ·rw [if_pos c5] at H
   have c5b0 : decide (0 ≤ (ji4)) = true := decide_eq_true c5
   clear c5
   by_cases c6 : (ji4) < (l0.length : Int)
   ·rw [if_pos c6] at H
    have c6b0 : decide ((ji4) < (l0.length : Int)) = true := decide_eq_true c6
    clear c6
    have H' := Aside0.mk H
    clear H
    go_enter Try.func55, Try.ntmps55
    go_wp2_with (first | ((with_reducible refine gate_callee (f := 75) rfl ?_); refine goesM (some 7) Try.func75 #[.slice A0 l0.length c0] ?_; (with_reducible refine (steelyardref02_size.calls k _ _ l0 t448 _ ?side1 ?side2 A2.out).mono ?_); (case side1 => repeat (first | exact HR0.out | (with_reducible first | apply cA | apply cN | apply cD))); (case side2 => exact HC0.out); rintro e w' ⟨rfl, ⟨nd, rfl⟩⟩; refine ⟨_, rfl, ?_⟩; have p449 : 0 ≤ ((ji4) : Int) := of_decide_eq_true (by first | (with_reducible assumption) | assumption); have q449 : (ji4) < (l0.length : Int) := of_decide_eq_true (by first | (with_reducible assumption) | assumption); obtain ⟨ad449, e449, hx449_0⟩ := Kd.at_int HR0.out (ji4) p449 q449; cases e449; replace p449 := eq_true p449; replace q449 := eq_true q449))
    go_loopg [4, 5] k (fun kq v4 v5 w' => ∃ (x4_1 : Int) (x5_1 : Int), v4 = .int .i64 x4_1 ∧ v5 = .int .u32 x5_1 ∧ Aside0 (steelyardref02_Len.l0 kq x4_1 x5_1 = some r) ∧ Aside0 (kq ≤ k) ∧ Drawn0 w w')
    case atStart => exact ⟨(wrap64 (32 * (ji4))), (rd l0 (ji4)), (by first | rfl | (simp; done) | (simp only [← hji4] <;> (first | rfl | simp)) | (simp [*]; done)), (by first | rfl | (simp; done) | (simp only [← hji4] <;> (first | rfl | simp)) | (simp [*]; done)), H', ⟨Nat.le_refl _⟩, by repeat (first | exact Drawn0.refl _ | apply Drawn0.step)⟩
    case round =>
     clear H'
     try clear p2
     try clear c3
     try clear c3b0
     try clear c3b1
     try clear p4
     try clear q4
     try clear hx4
     try clear c5
     try clear c5b0
     try clear c6
     try clear c6b0
     try clear p6
     try clear hx449_0
     try clear p449
     try clear q449
     obtain ⟨x4_1, x5_1, rfl, rfl, HA, HK1, ⟨m1, rfl⟩⟩ := hrel
     cases gk with
     | zero => exact absurd HA.out (by simp [steelyardref02_Len.l0])
     | succ k1 =>
      have H := HA.out
      clear HA
      simp only [steelyardref02_Len.l0] at H
      by_cases c7 : x5_1 > 0
      ·rw [if_pos c7] at H
       have c7b0 : decide (0 < x5_1) = true := decide_eq_true c7
       clear c7
       have H' := Aside0.mk H
       clear H
       go_wp2
       go_roundg k1
       case measure => have := HK1.out; omega
       case rel => exact ⟨(wrap64 (x4_1 + 1)), ((Int.tdiv x5_1 2) % 4294967296), (by first | rfl | (simp; done) | (simp [*]; done)), (by first | rfl | (simp; done) | (simp [*]; done)), H', ⟨by have := HK1.out; omega⟩, by repeat (first | exact Drawn0.refl _ | apply Drawn0.step)⟩
      ·rw [if_neg c7] at H
       have c7b0 : decide (0 < x5_1) = false := decide_eq_false c7
       clear c7
       obtain rfl := Option.some.inj H
       go_wp2
       go_ret
       exact ⟨by first | rfl | (simp; done) | (simp only [← hji4] <;> (first | rfl | simp)) | (simp [*]; done), by repeat (first | exact Drawn0.refl _ | apply Drawn0.step)⟩
   ·rw [if_neg c6] at H
    exact absurd H (by simp)
  ·rw [if_neg c5] at H
   exact absurd H (by simp)

end Go.Proofs.Ytdemanikmaafeaa.Pr
