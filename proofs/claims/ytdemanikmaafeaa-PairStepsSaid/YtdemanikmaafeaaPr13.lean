-- short
-- written by this session's own program (wip/fprint.py), which widens the kit's print by floats
import Derived.Test.YtdemanikmaafeaaPr0
import Derived.Test.YtdemanikmaafeaaPr6
import Derived.Test.YtdemanikmaafeaaPr11
import Derived.Test.YtdemanikmaafeaaPr12
namespace Go.Proofs.Ytdemanikmaafeaa.Pr
open Go.RowKit Go.Proofs.YtdemanikmaafeaaW.PrintWords Go.Proofs.YtdemanikmaafeaaW.PrintLast Go.Proofs.YtdemanikmaafeaaW.PrintMore
attribute [local go_sem] max2_int min2_int max_two min_two max_three min_three max_four min_four   -- for this text's walks alone
set_option linter.unusedVariables false
set_option linter.unusedSimpArgs false

/-! ### steelyardref03_Form: function 76 -/
def steelyardref03_Form.j0 : Nat → Bool → Int → List Int → Int → Bool → Option (Bool × List Int × Int × Bool)
 | 0, _, _, _, _, _ => none
 | k + 1, x0, x2, x8, x9, x31 => if x31 = true then (some (false, ([] : List Int), 0, false)) else ((steelyardref02_Moved.f k x8 (wrap64 (-x9))).bind fun t333 => (if (t333.length : Int) > 8192 then (some (false, ([] : List Int), 0, false)) else (some (x0, t333, wrap64 (x2 + x9), true))))
def steelyardref03_Form.f (k : Nat) (a0 : Bool) (l1 : List Int) (a2 : Int) : Option (Bool × List Int × Int × Bool) := (steelyardref02_Norm.f k l1).bind fun t329 => (if (t329.length : Int) = 0 then (some (false, ([] : List Int), 0, true)) else ((steelyardref02_Low.f k t329).bind fun t332 => (if a2 > 1048576 then (steelyardref03_Form.j0 k a0 a2 t329 t332 true) else (if (wrap64 (a2 + t332)) > 1048576 then (steelyardref03_Form.j0 k a0 a2 t329 t332 true) else (steelyardref03_Form.j0 k a0 a2 t329 t332 (decide ((wrap64 (a2 + t332)) < (-1048576))))))))
theorem steelyardref03_Form.mono_l : ∀ k, (∀ y0 y1 y2 y3 y4, LeO (steelyardref03_Form.j0 k y0 y1 y2 y3 y4) (steelyardref03_Form.j0 (k + 1) y0 y1 y2 y3 y4))
 | 0 => fun _ _ _ _ _ r h => by simp [steelyardref03_Form.j0] at h
 | k + 1 => by
  have ih0 := steelyardref03_Form.mono_l k
  ·intro y0 y1 y2 y3 y4
   unfold steelyardref03_Form.j0
   repeat' first
   | (with_reducible exact ih0 _ _ _ _ _)
   | (with_reducible exact steelyardref02_Low.mono _ _)
   | (with_reducible exact steelyardref02_Moved.mono _ _ _)
   | (with_reducible exact steelyardref02_Norm.mono _ _)
   | (with_reducible exact LeO.refl _)
   | (with_reducible exact LeO.none _)
   | (with_reducible refine LeO.ite ?_ ?_)
   | (with_reducible refine LeO.bind ?_ (fun _ => ?_))
   | exact ih0 _ _ _ _ _
   | exact steelyardref02_Low.mono _ _
   | exact steelyardref02_Moved.mono _ _ _
   | exact steelyardref02_Norm.mono _ _
   | exact LeO.none _
   | refine LeO.ite ?_ ?_
   | refine LeO.bind ?_ (fun _ => ?_)
theorem steelyardref03_Form.mono : ∀ a0 a1 a2 k, LeO (steelyardref03_Form.f k a0 a1 a2) (steelyardref03_Form.f (k + 1) a0 a1 a2) := by
 intro a0 a1 a2 k
 have ih0 := steelyardref03_Form.mono_l k
 unfold steelyardref03_Form.f
 repeat' first
   | (with_reducible exact ih0 _ _ _ _ _)
   | (with_reducible exact steelyardref02_Low.mono _ _)
   | (with_reducible exact steelyardref02_Moved.mono _ _ _)
   | (with_reducible exact steelyardref02_Norm.mono _ _)
   | (with_reducible exact LeO.refl _)
   | (with_reducible exact LeO.none _)
   | (with_reducible refine LeO.ite ?_ ?_)
   | (with_reducible refine LeO.bind ?_ (fun _ => ?_))
   | exact ih0 _ _ _ _ _
   | exact steelyardref02_Low.mono _ _
   | exact steelyardref02_Moved.mono _ _ _
   | exact steelyardref02_Norm.mono _ _
   | exact LeO.none _
   | refine LeO.ite ?_ ?_
   | refine LeO.bind ?_ (fun _ => ?_)
set_option maxHeartbeats 3000000 in
set_option maxRecDepth 100000 in
theorem steelyardref03_Form.calls (k : Nat) (a0 : Bool) (A1 : Option Addr) (c1 : Nat) (l1 : List Int) (a2 : Int) (r1 : Bool) (r2 : List Int) (r3 : Int) (r4 : Bool) (w : World) (hr1 : Kd.C (Kd.int .u32) w A1 l1.length l1) (hc1 : l1.length ≤ c1) (h : steelyardref03_Form.f k a0 l1 a2 = some (r1, r2, r3, r4)) :
  Calls Try.prog 76 #[.bool a0, .slice A1 l1.length c1, .int .i64 a2] w fun e w' => ∃ v1_ : Value, e = .returned (.tuple #[.agg #[.bool r1, v1_, .int .i64 r3], .bool r4]) ∧ Kd.R (Kd.int .u32) 72 w' w.heap.size (fun _ => True) v1_ r2 ∧ Below w.heap.size w w' := by
 have hu43 := Try.underlying43
 have HR1 := Aside0.mk hr1
 have HC1 := Aside0.mk hc1
 clear hr1 hc1
 have HB := Aside0.mk (Below.refl w.heap.size w)
 have H : ((steelyardref02_Norm.f k l1).bind fun t329 => (if (t329.length : Int) = 0 then (some (false, ([] : List Int), 0, true)) else ((steelyardref02_Low.f k t329).bind fun t332 => (if a2 > 1048576 then (steelyardref03_Form.j0 k a0 a2 t329 t332 true) else (if (wrap64 (a2 + t332)) > 1048576 then (steelyardref03_Form.j0 k a0 a2 t329 t332 true) else (steelyardref03_Form.j0 k a0 a2 t329 t332 (decide ((wrap64 (a2 + t332)) < (-1048576))))))))) = some (r1, r2, r3, r4) := h
 clear h
 obtain ⟨t329, A4, H⟩ := ob_ H
 try dsimp only at H
 by_cases c5 : (t329.length : Int) = 0
 ·rw [if_pos c5] at H
  have c5b0 : ((t329.length : Int) == 0) = true := beq_iff_eq.mpr c5
  have c5b1 : ((t329.length : Int) != 0) = false := bne_eq_false_iff_eq.mpr c5
  clear c5
  simp only [Option.some.injEq, Prod.mk.injEq] at H
  obtain ⟨rfl, rfl, rfl, rfl⟩ := H
  go_enter Try.func76, Try.ntmps76
  go_wp2_with (first | ((with_reducible refine gate_dst (N := 6) rfl ?_); refine box_event ?hg (N := 6) ?hd (cs := #[.bool false, .slice none 0 0, .int .i64 0]) (t := 43) ?hr ?_; (case hd => rfl); (case hg => rfl); (case hr => first | (go_simp; done) | (go_simp; rfl)); intro gb328 hg w6 hbox hb; have n0_ := bs_ HB hb; have n1_ := Aside0.mk (hbox); have n2_ := ge_ HB hg; have n3_ := ge_ HB hg; clear HB; have HB := n0_; have BK328 := n1_; have GW328 := n2_; have GE328 := n3_; clear n0_ n1_ n2_ n3_; clear hb hbox hg) | ((with_reducible refine gate_callee (f := 78) rfl ?_); refine goesM (some 11) Try.func78 #[.slice A1 l1.length c1] ?_; (with_reducible refine (steelyardref02_Norm.calls k _ _ l1 t329 _ ?side1 ?side2 A4.out).mono ?_); (case side1 => repeat (first | exact (Kd.C_below HR1.out HB.out) | (with_reducible first | apply cA | apply cN | apply cD))); (case side2 => exact HC1.out); rintro e w7 ⟨v330, rfl, ho0, hb⟩; refine ⟨_, rfl, ?_⟩; have n0_ := Aside0.mk (Kd.R_lower ho0 (below_size (bl_ HB))); have n1_ := kb_ BK328 hb; have n2_ := bs_ HB hb; clear BK328; clear HB; have HO331 := n0_; have BK328 := n1_; have HB := n2_; clear n0_ n1_ n2_; (try clear hb); (try clear hb2); (try clear hk); (try clear hi); (try clear ho0); obtain ⟨Ao8, co8, eo8⟩ := Kd.R_slice HO331.out; subst eo8; have hcz9_0 : w7.cell? ⟨gb328, 0, none⟩ = some (.bool false) := (blk_cell BK328.out 0).trans rfl; have hcz9_1 : w7.cell? ⟨gb328, 1, none⟩ = some (.slice none 0 0) := (blk_cell BK328.out 1).trans rfl; have hcz9_2 : w7.cell? ⟨gb328, 2, none⟩ = some (.int .i64 0) := (blk_cell BK328.out 2).trans rfl; have hfz9_0 := blk_frozen BK328.out 0; have hfz9_1 := blk_frozen BK328.out 1; have hfz9_2 := blk_frozen BK328.out 2))
  refine bodyPost_ret (results_ct rfl _ _ gb328 43 #[.bool false, .slice none 0 0, .int .i64 0] (0, 0) _ rfl (by (with_reducible repeat (first | apply bN | apply bD | apply bA)); refine blk_put (cs := #[.bool false, .slice none 0 0, .int .i64 0]) ?_ 2 _ rfl; (with_reducible repeat (first | apply bN | apply bD | apply bA)); refine blk_put (cs := #[.bool false, .slice none 0 0, .int .i64 0]) ?_ 1 _ rfl; (with_reducible repeat (first | apply bN | apply bD | apply bA)); refine blk_put (cs := #[.bool false, .slice none 0 0, .int .i64 0]) ?_ 0 _ rfl; (with_reducible repeat (first | apply bN | apply bD | apply bA)); exact BK328.out) Try.underlying43 rfl (by kernel_rfl)) rfl ?_
  exact ⟨_, by first | rfl | (simp [errW_none, errW_some] <;> rfl) | (simp [*, errW_none, errW_some] <;> rfl), by first | exact Kd.R_nil _ _ _ _ _ | exact Kd.N_nil _ _ _ _ _ | exact Kd.V_nil _ _ _ _ _ | exact Kd.Q_nil _ _ _ _ _ | exact Kd.S_nil _ _ _ _ _, bl_ HB⟩
 ·rw [if_neg c5] at H
  have c5b0 : ((t329.length : Int) == 0) = false := beq_eq_false_iff_ne.mpr c5
  have c5b1 : ((t329.length : Int) != 0) = true := bne_iff_ne.mpr c5
  have c5b2 : ¬ (t329 = []) := fun h_ => c5 (by rw [h_]; rfl)
  obtain ⟨t332, A10, H⟩ := ob_ H
  try dsimp only at H
  have HC11 := Aside0.mk H
  clear H
  go_enter Try.func76, Try.ntmps76
  go_upto_region 5 with (first | ((with_reducible refine gate_dst (N := 6) rfl ?_); refine box_event ?hg (N := 6) ?hd (cs := #[.bool false, .slice none 0 0, .int .i64 0]) (t := 43) ?hr ?_; (case hd => rfl); (case hg => rfl); (case hr => first | (go_simp; done) | (go_simp; rfl)); intro gb328 hg w12 hbox hb; have n0_ := bs_ HB hb; have n1_ := Aside0.mk (hbox); have n2_ := ge_ HB hg; have n3_ := ge_ HB hg; clear HB; have HB := n0_; have BK328 := n1_; have GW328 := n2_; have GE328 := n3_; clear n0_ n1_ n2_ n3_; clear hb hbox hg) | ((with_reducible refine gate_callee (f := 78) rfl ?_); refine goesM (some 11) Try.func78 #[.slice A1 l1.length c1] ?_; (with_reducible refine (steelyardref02_Norm.calls k _ _ l1 t329 _ ?side1 ?side2 A4.out).mono ?_); (case side1 => repeat (first | exact (Kd.C_below HR1.out HB.out) | (with_reducible first | apply cA | apply cN | apply cD))); (case side2 => exact HC1.out); rintro e w13 ⟨v330, rfl, ho0, hb⟩; refine ⟨_, rfl, ?_⟩; have n0_ := Aside0.mk (Kd.R_lower ho0 (below_size (bl_ HB))); have n1_ := kb_ BK328 hb; have n2_ := bs_ HB hb; clear BK328; clear HB; have HO331 := n0_; have BK328 := n1_; have HB := n2_; clear n0_ n1_ n2_; (try clear hb); (try clear hb2); (try clear hk); (try clear hi); (try clear ho0); obtain ⟨Ao14, co14, eo14⟩ := Kd.R_slice HO331.out; subst eo14) | ((with_reducible refine gate_callee (f := 83) rfl ?_); refine goesM (some 17) Try.func83 #[.slice Ao14 t329.length co14] ?_; (with_reducible refine (steelyardref02_Low.calls k _ _ t329 t332 _ ?side1 ?side2 A10.out).mono ?_); (case side1 => repeat (first | exact (Kd.R_reads' HO331.out).2.2 | (with_reducible first | apply cA | apply cN | apply cD))); (case side2 => exact (Kd.R_reads' HO331.out).2.1); rintro e w' ⟨rfl, ⟨nd, rfl⟩⟩; refine ⟨_, rfl, ?_⟩))
  (try simp only [Act.put, List.setIfInBounds_toArray, List.set_cons_zero, List.set_cons_succ])
  go_cut [31] (fun v31 wc => ∃ (kq : Nat) (x31_10 : Bool), v31 = .bool x31_10 ∧ Aside0 (steelyardref03_Form.j0 kq a0 a2 t329 t332 x31_10 = some (r1, r2, r3, r4)) ∧ Aside0 (kq ≤ k) ∧ Aside0 (Kd.R (Kd.int .u32) 72 wc w.heap.size (fun _ => True) (.slice Ao14 t329.length co14) t329) ∧ Aside0 (wc.heap[gb328]? = some (.cells #[.bool false, (.slice none 0 0), .int .i64 0] 43 (0, 0))) ∧ Aside0 (Below w.heap.size w wc))
  case first =>
   have H := HC11.out
   clear HC11
   by_cases c15 : a2 > 1048576
   ·rw [if_pos c15] at H
    have c15b0 : decide (1048576 < a2) = true := decide_eq_true c15
    clear c15
    (first | rw [c15b0] | (simp only [i64_w, i32_w]; rw [c15b0]) | skip)
    have H' := Aside0.mk H
    clear H
    go_wp2
    go_meet
    case rel => exact ⟨_, (true), (by first | rfl | (simp; done) | (simp [*]; done)), H', ⟨by first | omega | exact Nat.le_refl _⟩, ⟨by (with_reducible repeat (first | apply rA | apply rN | apply rD)); exact HO331.out⟩, ⟨by (with_reducible repeat (first | apply bN | apply bD | apply bA)); exact BK328.out⟩, ⟨bl_ HB⟩⟩
   ·rw [if_neg c15] at H
    have c15b0 : decide (1048576 < a2) = false := decide_eq_false c15
    clear c15
    (first | rw [c15b0] | (simp only [i64_w, i32_w]; rw [c15b0]) | skip)
    by_cases c16 : (wrap64 (a2 + t332)) > 1048576
    ·rw [if_pos c16] at H
     have c16b0 : decide (1048576 < (wrap64 (a2 + t332))) = true := decide_eq_true c16
     clear c16
     have H' := Aside0.mk H
     clear H
     go_wp2
     go_meet
     case rel => exact ⟨_, (true), (by first | rfl | (simp; done) | (simp [*]; done)), H', ⟨by first | omega | exact Nat.le_refl _⟩, ⟨by (with_reducible repeat (first | apply rA | apply rN | apply rD)); exact HO331.out⟩, ⟨by (with_reducible repeat (first | apply bN | apply bD | apply bA)); exact BK328.out⟩, ⟨bl_ HB⟩⟩
    ·rw [if_neg c16] at H
     have c16b0 : decide (1048576 < (wrap64 (a2 + t332))) = false := decide_eq_false c16
     clear c16
     have H' := Aside0.mk H
     clear H
     go_wp2
     go_meet
     case rel => exact ⟨_, (decide ((wrap64 (a2 + t332)) < (-1048576))), (by first | rfl | (simp; done) | (simp [*]; done)), H', ⟨by first | omega | exact Nat.le_refl _⟩, ⟨by (with_reducible repeat (first | apply rA | apply rN | apply rD)); exact HO331.out⟩, ⟨by (with_reducible repeat (first | apply bN | apply bD | apply bA)); exact BK328.out⟩, ⟨bl_ HB⟩⟩
  case rest =>
   clear HC11
   try clear c1
   try clear p2
   try clear c5
   try clear c5b0
   try clear c5b1
   try clear c5b2
   try clear p6
   try clear c7
   try clear c8
   try clear c15
   try clear c15b0
   try clear c16
   try clear c16b0
   try clear hcz9_0
   try clear hcz9_1
   try clear hcz9_2
   try clear hfz9_0
   try clear hfz9_1
   try clear hfz9_2
   obtain ⟨kq, x31_10, rfl, HA, HJ10, HO_8, BK328, HB⟩ := hcut
   cases kq with
   | zero => exact absurd HA.out (by simp [steelyardref03_Form.j0])
   | succ kj10 =>
    have H := HA.out
    clear HA
    simp only [steelyardref03_Form.j0] at H
    by_cases c17 : x31_10 = true
    ·subst c17
     have H1 : (some (false, ([] : List Int), 0, false)) = some (r1, r2, r3, r4) := by rw [if_pos rfl] at H; exact H
     clear H
     have H := H1
     clear H1
     simp only [Option.some.injEq, Prod.mk.injEq] at H
     obtain ⟨rfl, rfl, rfl, rfl⟩ := H
     have hcz18_0 : wc.cell? ⟨gb328, 0, none⟩ = some (.bool false) := (blk_cell BK328.out 0).trans rfl
     have hcz18_1 : wc.cell? ⟨gb328, 1, none⟩ = some (.slice none 0 0) := (blk_cell BK328.out 1).trans rfl
     have hcz18_2 : wc.cell? ⟨gb328, 2, none⟩ = some (.int .i64 0) := (blk_cell BK328.out 2).trans rfl
     have hfz18_0 := blk_frozen BK328.out 0
     have hfz18_1 := blk_frozen BK328.out 1
     have hfz18_2 := blk_frozen BK328.out 2
     go_wp2
     refine bodyPost_ret (results_ct rfl _ _ gb328 43 #[.bool false, .slice none 0 0, .int .i64 0] (0, 0) _ rfl (by (with_reducible repeat (first | apply bN | apply bD | apply bA)); refine blk_put (cs := #[.bool false, .slice none 0 0, .int .i64 0]) ?_ 2 _ rfl; (with_reducible repeat (first | apply bN | apply bD | apply bA)); refine blk_put (cs := #[.bool false, .slice none 0 0, .int .i64 0]) ?_ 1 _ rfl; (with_reducible repeat (first | apply bN | apply bD | apply bA)); refine blk_put (cs := #[.bool false, .slice none 0 0, .int .i64 0]) ?_ 0 _ rfl; (with_reducible repeat (first | apply bN | apply bD | apply bA)); exact BK328.out) Try.underlying43 rfl (by kernel_rfl)) rfl ?_
     exact ⟨_, by first | rfl | (simp [errW_none, errW_some] <;> rfl) | (simp [*, errW_none, errW_some] <;> rfl), by first | exact Kd.R_nil _ _ _ _ _ | exact Kd.N_nil _ _ _ _ _ | exact Kd.V_nil _ _ _ _ _ | exact Kd.Q_nil _ _ _ _ _ | exact Kd.S_nil _ _ _ _ _, bl_ HB⟩
    ·replace c17 := Bool.eq_false_iff.mpr c17
     subst c17
     have H1 : ((steelyardref02_Moved.f kj10 t329 (wrap64 (-t332))).bind fun t333 => (if (t333.length : Int) > 8192 then (some (false, ([] : List Int), 0, false)) else (some (a0, t333, wrap64 (a2 + t332), true)))) = some (r1, r2, r3, r4) := by rw [if_neg (show ¬ (false = true) by decide)] at H; exact H
     clear H
     have H := H1
     clear H1
     obtain ⟨t333, A19, H⟩ := ob_ H
     try dsimp only at H
     by_cases c20 : (t333.length : Int) > 8192
     ·rw [if_pos c20] at H
      have c20b0 : decide (8192 < (t333.length : Int)) = true := decide_eq_true c20
      have c20b1 : decide (8192 < t333.length) = true := decide_eq_true (by omega)
      clear c20
      simp only [Option.some.injEq, Prod.mk.injEq] at H
      obtain ⟨rfl, rfl, rfl, rfl⟩ := H
      go_wp2_with (first | ((with_reducible refine gate_callee (f := 58) rfl ?_); refine goesM (some 36) Try.func58 #[.slice Ao14 t329.length co14, .int .i64 (wrap64 (-t332))] ?_; (with_reducible refine (steelyardref02_Moved.calls kj10 _ _ t329 (wrap64 (-t332)) t333 _ ?side1 ?side2 A19.out).mono ?_); (case side1 => repeat (first | exact (Kd.R_reads' HO_8.out).2.2 | (with_reducible first | apply cA | apply cN | apply cD))); (case side2 => exact (Kd.R_reads' HO_8.out).2.1); rintro e w21 ⟨v334, rfl, ho0, hb⟩; refine ⟨_, rfl, ?_⟩; have n0_ := Aside0.mk (Kd.R_elder' (by (with_reducible repeat (first | apply rA | apply rN | apply rD)); exact HO_8.out) (Kd.R_base ho0) hb); have n1_ := Aside0.mk (Kd.R_lower (Kd.R_new' ho0 (Kd.R_lt (by (with_reducible repeat (first | apply rA | apply rN | apply rD)); exact HO_8.out))) (below_size (bl_ HB))); have n2_ := kb_ BK328 hb; have n3_ := bs_ HB hb; clear HO_8; clear BK328; clear HB; have HO_8 := n0_; have HO335 := n1_; have BK328 := n2_; have HB := n3_; clear n0_ n1_ n2_ n3_; (try clear hb); (try clear hb2); (try clear hk); (try clear hi); (try clear ho0); obtain ⟨Ao22, co22, eo22⟩ := Kd.R_slice HO335.out; subst eo22; have hcz23_0 : w21.cell? ⟨gb328, 0, none⟩ = some (.bool false) := (blk_cell BK328.out 0).trans rfl; have hcz23_1 : w21.cell? ⟨gb328, 1, none⟩ = some (.slice none 0 0) := (blk_cell BK328.out 1).trans rfl; have hcz23_2 : w21.cell? ⟨gb328, 2, none⟩ = some (.int .i64 0) := (blk_cell BK328.out 2).trans rfl; have hfz23_0 := blk_frozen BK328.out 0; have hfz23_1 := blk_frozen BK328.out 1; have hfz23_2 := blk_frozen BK328.out 2))
      refine bodyPost_ret (results_ct rfl _ _ gb328 43 #[.bool false, .slice none 0 0, .int .i64 0] (0, 0) _ rfl (by (with_reducible repeat (first | apply bN | apply bD | apply bA)); refine blk_put (cs := #[.bool false, .slice none 0 0, .int .i64 0]) ?_ 2 _ rfl; (with_reducible repeat (first | apply bN | apply bD | apply bA)); refine blk_put (cs := #[.bool false, .slice none 0 0, .int .i64 0]) ?_ 1 _ rfl; (with_reducible repeat (first | apply bN | apply bD | apply bA)); refine blk_put (cs := #[.bool false, .slice none 0 0, .int .i64 0]) ?_ 0 _ rfl; (with_reducible repeat (first | apply bN | apply bD | apply bA)); exact BK328.out) Try.underlying43 rfl (by kernel_rfl)) rfl ?_
      exact ⟨_, by first | rfl | (simp [errW_none, errW_some] <;> rfl) | (simp [*, errW_none, errW_some] <;> rfl), by first | exact Kd.R_nil _ _ _ _ _ | exact Kd.N_nil _ _ _ _ _ | exact Kd.V_nil _ _ _ _ _ | exact Kd.Q_nil _ _ _ _ _ | exact Kd.S_nil _ _ _ _ _, bl_ HB⟩
     ·rw [if_neg c20] at H
      have c20b0 : decide (8192 < (t333.length : Int)) = false := decide_eq_false c20
      have c20b1 : decide (8192 < t333.length) = false := decide_eq_false (by omega)
      clear c20
      simp only [Option.some.injEq, Prod.mk.injEq] at H
      obtain ⟨rfl, rfl, rfl, rfl⟩ := H
      go_wp2_with (first | ((with_reducible refine gate_callee (f := 58) rfl ?_); refine goesM (some 36) Try.func58 #[.slice Ao14 t329.length co14, .int .i64 (wrap64 (-t332))] ?_; (with_reducible refine (steelyardref02_Moved.calls kj10 _ _ t329 (wrap64 (-t332)) t333 _ ?side1 ?side2 A19.out).mono ?_); (case side1 => repeat (first | exact (Kd.R_reads' HO_8.out).2.2 | (with_reducible first | apply cA | apply cN | apply cD))); (case side2 => exact (Kd.R_reads' HO_8.out).2.1); rintro e w24 ⟨v334, rfl, ho0, hb⟩; refine ⟨_, rfl, ?_⟩; have n0_ := Aside0.mk (Kd.R_elder' (by (with_reducible repeat (first | apply rA | apply rN | apply rD)); exact HO_8.out) (Kd.R_base ho0) hb); have n1_ := Aside0.mk (Kd.R_lower (Kd.R_new' ho0 (Kd.R_lt (by (with_reducible repeat (first | apply rA | apply rN | apply rD)); exact HO_8.out))) (below_size (bl_ HB))); have n2_ := kb_ BK328 hb; have n3_ := bs_ HB hb; clear HO_8; clear BK328; clear HB; have HO_8 := n0_; have HO335 := n1_; have BK328 := n2_; have HB := n3_; clear n0_ n1_ n2_ n3_; (try clear hb); (try clear hb2); (try clear hk); (try clear hi); (try clear ho0); obtain ⟨Ao25, co25, eo25⟩ := Kd.R_slice HO335.out; subst eo25; have hcz26_0 : w24.cell? ⟨gb328, 0, none⟩ = some (.bool false) := (blk_cell BK328.out 0).trans rfl; have hcz26_1 : w24.cell? ⟨gb328, 1, none⟩ = some (.slice none 0 0) := (blk_cell BK328.out 1).trans rfl; have hcz26_2 : w24.cell? ⟨gb328, 2, none⟩ = some (.int .i64 0) := (blk_cell BK328.out 2).trans rfl; have hfz26_0 := blk_frozen BK328.out 0; have hfz26_1 := blk_frozen BK328.out 1; have hfz26_2 := blk_frozen BK328.out 2))
      refine bodyPost_ret (results_ct rfl _ _ gb328 43 #[.bool a0, .slice Ao25 t333.length co25, .int .i64 (wrap64 (a2 + t332))] (0, 0) _ rfl (by (with_reducible repeat (first | apply bN | apply bD | apply bA)); refine blk_put (cs := #[.bool a0, .slice Ao25 t333.length co25, .int .i64 0]) ?_ 2 _ rfl; (with_reducible repeat (first | apply bN | apply bD | apply bA)); refine blk_put (cs := #[.bool a0, .slice none 0 0, .int .i64 0]) ?_ 1 _ rfl; (with_reducible repeat (first | apply bN | apply bD | apply bA)); refine blk_put (cs := #[.bool false, .slice none 0 0, .int .i64 0]) ?_ 0 _ rfl; (with_reducible repeat (first | apply bN | apply bD | apply bA)); exact BK328.out) Try.underlying43 rfl (by kernel_rfl)) rfl ?_
      exact ⟨_, by first | rfl | (simp [errW_none, errW_some] <;> rfl) | (simp [*, errW_none, errW_some] <;> rfl), by (with_reducible repeat (first | apply rA | apply rN | apply rD)); exact Kd.R_mono (Kd.R_far (p := ⟨gb328, 2, none⟩) (Kd.R_far (p := ⟨gb328, 1, none⟩) (Kd.R_far (p := ⟨gb328, 0, none⟩) (Kd.R_types HO335.out BK328.out (by decide)) (fun _ hk => hk.2) (.bool a0)) (fun _ hk => hk.2) (.slice Ao25 t333.length co25)) (fun _ hk => hk.2) (.int .i64 (wrap64 (a2 + t332)))) (fun _ hk => trivial), bl_ HB⟩

/-! ### steelyardref03_Made: function 57 -/
def steelyardref03_Made.f (k : Nat) (a0_0 : Bool) (l0_1 : List Int) (a0_2 : Int) : Option (Bool × List Int × Int × Bool) := (steelyardref03_Form.f k a0_0 l0_1 a0_2).bind fun bt338 => (some (bt338.1, bt338.2.1, bt338.2.2.1, bt338.2.2.2))
theorem steelyardref03_Made.mono : ∀ a0 a1 a2 k, LeO (steelyardref03_Made.f k a0 a1 a2) (steelyardref03_Made.f (k + 1) a0 a1 a2) := by
 intro a0 a1 a2 k
 unfold steelyardref03_Made.f
 repeat' first
   | (with_reducible exact steelyardref03_Form.mono _ _ _ _)
   | (with_reducible exact LeO.refl _)
   | (with_reducible exact LeO.none _)
   | (with_reducible refine LeO.ite ?_ ?_)
   | (with_reducible refine LeO.bind ?_ (fun _ => ?_))
   | exact steelyardref03_Form.mono _ _ _ _
   | exact LeO.none _
   | refine LeO.ite ?_ ?_
   | refine LeO.bind ?_ (fun _ => ?_)
set_option maxHeartbeats 3000000 in
set_option maxRecDepth 100000 in
theorem steelyardref03_Made.calls (k : Nat) (a0_0 : Bool) (A0_1 : Option Addr) (c0_1 : Nat) (l0_1 : List Int) (a0_2 : Int) (r1 : Bool) (r2 : List Int) (r3 : Int) (r4 : Bool) (w : World) (hr0_1 : Kd.C (Kd.int .u32) w A0_1 l0_1.length l0_1) (hc0_1 : l0_1.length ≤ c0_1) (h : steelyardref03_Made.f k a0_0 l0_1 a0_2 = some (r1, r2, r3, r4)) :
  Calls Try.prog 57 #[.agg #[.bool a0_0, .slice A0_1 l0_1.length c0_1, .int .i64 a0_2]] w fun e w' => ∃ v1_ : Value, e = .returned (.tuple #[.agg #[.bool r1, v1_, .int .i64 r3], .bool r4]) ∧ Kd.R (Kd.int .u32) 72 w' w.heap.size (fun _ => True) v1_ r2 ∧ Below w.heap.size w w' := by
 have hu43 := Try.underlying43
 have HR0_1 := Aside0.mk hr0_1
 have HC0_1 := Aside0.mk hc0_1
 clear hr0_1 hc0_1
 have HB := Aside0.mk (Below.refl w.heap.size w)
 have H : ((steelyardref03_Form.f k a0_0 l0_1 a0_2).bind fun bt338 => (some (bt338.1, bt338.2.1, bt338.2.2.1, bt338.2.2.2))) = some (r1, r2, r3, r4) := h
 clear h
 obtain ⟨⟨t338, t339, t342, t343⟩, A2, H⟩ := ob_ H
 try dsimp only at H
 simp only [Option.some.injEq, Prod.mk.injEq] at H
 obtain ⟨rfl, rfl, rfl, rfl⟩ := H
 go_enter Try.func57, Try.ntmps57
 go_wp2_with (first | ((with_reducible refine gate_dst (N := 1) rfl ?_); refine box_event ?hg (N := 1) ?hd (cs := #[.bool a0_0, .slice A0_1 l0_1.length c0_1, .int .i64 a0_2]) (t := 43) ?hr ?_; (case hd => rfl); (case hg => rfl); (case hr => first | (go_simp; done) | (go_simp; rfl)); intro gb336 hg w3 hbox hb; have n0_ := bs_ HB hb; have n1_ := Aside0.mk (hbox); have n2_ := ge_ HB hg; have n3_ := ge_ HB hg; clear HB; have HB := n0_; have BK336 := n1_; have GW336 := n2_; have GE336 := n3_; clear n0_ n1_ n2_ n3_; clear hb hbox hg) | ((with_reducible refine gate_dst (N := 2) rfl ?_); refine box_event ?hg (N := 2) ?hd (cs := #[.bool false, .slice none 0 0, .int .i64 0]) (t := 43) ?hr ?_; (case hd => rfl); (case hg => rfl); (case hr => first | (go_simp; done) | (go_simp; rfl)); intro gb337 hg w4 hbox hb; have n0_ := kb_ BK336 hb; have n1_ := bs_ HB hb; have n2_ := Aside0.mk (hbox); have n3_ := ge_ HB hg; have n4_ := ge_ HB hg; have n5_ := nlt_ BK336 hg; have n6_ := ngt_ BK336 hg; clear BK336; clear HB; have BK336 := n0_; have HB := n1_; have BK337 := n2_; have GW337 := n3_; have GE337 := n4_; have NB336_337 := n5_; have NB337_336 := n6_; clear n0_ n1_ n2_ n3_ n4_ n5_ n6_; clear hb hbox hg; have hnb5 := NB336_337.out; have hnc5 := NB337_336.out; have hcz6_0 : w4.cell? ⟨gb336, 0, none⟩ = some (.bool a0_0) := (blk_cell BK336.out 0).trans rfl; have hcz6_1 : w4.cell? ⟨gb336, 1, none⟩ = some (.slice A0_1 l0_1.length c0_1) := (blk_cell BK336.out 1).trans rfl; have hcz6_2 : w4.cell? ⟨gb336, 2, none⟩ = some (.int .i64 a0_2) := (blk_cell BK336.out 2).trans rfl; have hfz6_0 := blk_frozen BK336.out 0; have hfz6_1 := blk_frozen BK336.out 1; have hfz6_2 := blk_frozen BK336.out 2) | ((with_reducible refine gate_callee (f := 76) rfl ?_); refine goesM (some 10) Try.func76 #[.bool a0_0, .slice A0_1 l0_1.length c0_1, .int .i64 a0_2] ?_; (with_reducible refine (steelyardref03_Form.calls k a0_0 _ _ l0_1 a0_2 t338 t339 t342 t343 _ ?side1 ?side2 A2.out).mono ?_); (case side1 => repeat (first | exact (Kd.C_below HR0_1.out HB.out) | (with_reducible first | apply cA | apply cN | apply cD))); (case side2 => exact HC0_1.out); rintro e w7 ⟨v340, rfl, ho0, hb⟩; refine ⟨_, rfl, ?_⟩; have n0_ := Aside0.mk (Kd.R_lower ho0 (below_size (bl_ HB))); have n1_ := kb_ BK336 hb; have n2_ := kb_ BK337 hb; have n3_ := bs_ HB hb; clear BK336; clear BK337; clear HB; have HO341 := n0_; have BK336 := n1_; have BK337 := n2_; have HB := n3_; clear n0_ n1_ n2_ n3_; (try clear hb); (try clear hb2); (try clear hk); (try clear hi); (try clear ho0); have hcz8_0 : w7.cell? ⟨gb337, 0, none⟩ = some (.bool false) := (blk_cell BK337.out 0).trans rfl; have hcz8_1 : w7.cell? ⟨gb337, 1, none⟩ = some (.slice none 0 0) := (blk_cell BK337.out 1).trans rfl; have hcz8_2 : w7.cell? ⟨gb337, 2, none⟩ = some (.int .i64 0) := (blk_cell BK337.out 2).trans rfl; have hfz8_0 := blk_frozen BK337.out 0; have hfz8_1 := blk_frozen BK337.out 1; have hfz8_2 := blk_frozen BK337.out 2; obtain ⟨Ao9, co9, eo9⟩ := Kd.R_slice HO341.out; subst eo9))
 refine bodyPost_ret (results_ct rfl _ _ gb337 43 #[.bool t338, .slice Ao9 t339.length co9, .int .i64 t342] (0, 0) _ rfl (by (with_reducible repeat (first | apply bN | apply bD | apply bA)); refine blk_put (cs := #[.bool t338, .slice Ao9 t339.length co9, .int .i64 0]) ?_ 2 _ rfl; (with_reducible repeat (first | apply bN | apply bD | apply bA)); refine blk_put (cs := #[.bool t338, .slice none 0 0, .int .i64 0]) ?_ 1 _ rfl; (with_reducible repeat (first | apply bN | apply bD | apply bA)); refine blk_put (cs := #[.bool false, .slice none 0 0, .int .i64 0]) ?_ 0 _ rfl; (with_reducible repeat (first | apply bN | apply bD | apply bA)); exact BK337.out) Try.underlying43 rfl (by kernel_rfl)) rfl ?_
 exact ⟨_, by first | rfl | (simp [errW_none, errW_some] <;> rfl) | (simp [*, errW_none, errW_some] <;> rfl), by (with_reducible repeat (first | apply rA | apply rN | apply rD)); exact Kd.R_mono (Kd.R_far (p := ⟨gb337, 2, none⟩) (Kd.R_far (p := ⟨gb337, 1, none⟩) (Kd.R_far (p := ⟨gb337, 0, none⟩) (Kd.R_types HO341.out BK337.out (by decide)) (fun _ hk => hk.2) (.bool t338)) (fun _ hk => hk.2) (.slice Ao9 t339.length co9)) (fun _ hk => hk.2) (.int .i64 t342)) (fun _ hk => trivial), bl_ HB⟩

/-! ### steelyardref03_told: function 59 -/
def steelyardref03_told.f (k : Nat) (a0 : Bool) (l1 : List Int) (a2 : Int) : Option (Bool × List Int × Int × Int) := (steelyardref03_Form.f k a0 l1 a2).bind fun bt345 => (if bt345.2.2.2 = true then (some (bt345.1, bt345.2.1, bt345.2.2.1, 0)) else (some (false, ([] : List Int), 0, 2)))
theorem steelyardref03_told.mono : ∀ a0 a1 a2 k, LeO (steelyardref03_told.f k a0 a1 a2) (steelyardref03_told.f (k + 1) a0 a1 a2) := by
 intro a0 a1 a2 k
 unfold steelyardref03_told.f
 repeat' first
   | (with_reducible exact steelyardref03_Form.mono _ _ _ _)
   | (with_reducible exact LeO.refl _)
   | (with_reducible exact LeO.none _)
   | (with_reducible refine LeO.ite ?_ ?_)
   | (with_reducible refine LeO.bind ?_ (fun _ => ?_))
   | exact steelyardref03_Form.mono _ _ _ _
   | exact LeO.none _
   | refine LeO.ite ?_ ?_
   | refine LeO.bind ?_ (fun _ => ?_)
set_option maxHeartbeats 3000000 in
set_option maxRecDepth 100000 in
theorem steelyardref03_told.calls (k : Nat) (a0 : Bool) (A1 : Option Addr) (c1 : Nat) (l1 : List Int) (a2 : Int) (r1 : Bool) (r2 : List Int) (r3 : Int) (r4 : Int) (w : World) (hr1 : Kd.C (Kd.int .u32) w A1 l1.length l1) (hc1 : l1.length ≤ c1) (h : steelyardref03_told.f k a0 l1 a2 = some (r1, r2, r3, r4)) :
  Calls Try.prog 59 #[.bool a0, .slice A1 l1.length c1, .int .i64 a2] w fun e w' => ∃ v1_ : Value, e = .returned (.tuple #[.agg #[.bool r1, v1_, .int .i64 r3], .int .i64 r4]) ∧ Kd.R (Kd.int .u32) 72 w' w.heap.size (fun _ => True) v1_ r2 ∧ Below w.heap.size w w' := by
 have hu43 := Try.underlying43
 have HR1 := Aside0.mk hr1
 have HC1 := Aside0.mk hc1
 clear hr1 hc1
 have HB := Aside0.mk (Below.refl w.heap.size w)
 have H : ((steelyardref03_Form.f k a0 l1 a2).bind fun bt345 => (if bt345.2.2.2 = true then (some (bt345.1, bt345.2.1, bt345.2.2.1, 0)) else (some (false, ([] : List Int), 0, 2)))) = some (r1, r2, r3, r4) := h
 clear h
 obtain ⟨⟨t345, t346, t349, t350⟩, A4, H⟩ := ob_ H
 try dsimp only at H
 by_cases c5 : t350 = true
 ·subst c5
  have H1 : (some (t345, t346, t349, 0)) = some (r1, r2, r3, r4) := by rw [if_pos rfl] at H; exact H
  clear H
  have H := H1
  clear H1
  simp only [Option.some.injEq, Prod.mk.injEq] at H
  obtain ⟨rfl, rfl, rfl, rfl⟩ := H
  go_enter Try.func59, Try.ntmps59
  go_wp2_with (first | ((with_reducible refine gate_dst (N := 6) rfl ?_); refine box_event ?hg (N := 6) ?hd (cs := #[.bool false, .slice none 0 0, .int .i64 0]) (t := 43) ?hr ?_; (case hd => rfl); (case hg => rfl); (case hr => first | (go_simp; done) | (go_simp; rfl)); intro gb344 hg w6 hbox hb; have n0_ := bs_ HB hb; have n1_ := Aside0.mk (hbox); have n2_ := ge_ HB hg; have n3_ := ge_ HB hg; clear HB; have HB := n0_; have BK344 := n1_; have GW344 := n2_; have GE344 := n3_; clear n0_ n1_ n2_ n3_; clear hb hbox hg) | ((with_reducible refine gate_callee (f := 76) rfl ?_); refine goesM (some 14) Try.func76 #[.bool a0, .slice A1 l1.length c1, .int .i64 a2] ?_; (with_reducible refine (steelyardref03_Form.calls k a0 _ _ l1 a2 t345 t346 t349 true _ ?side1 ?side2 A4.out).mono ?_); (case side1 => repeat (first | exact (Kd.C_below HR1.out HB.out) | (with_reducible first | apply cA | apply cN | apply cD))); (case side2 => exact HC1.out); rintro e w7 ⟨v347, rfl, ho0, hb⟩; refine ⟨_, rfl, ?_⟩; have n0_ := Aside0.mk (Kd.R_lower ho0 (below_size (bl_ HB))); have n1_ := kb_ BK344 hb; have n2_ := bs_ HB hb; clear BK344; clear HB; have HO348 := n0_; have BK344 := n1_; have HB := n2_; clear n0_ n1_ n2_; (try clear hb); (try clear hb2); (try clear hk); (try clear hi); (try clear ho0)) | ((with_reducible refine gate_dst (N := 8) rfl ?_); refine box_event ?hg (N := 8) ?hd (cs := #[.bool false, .slice none 0 0, .int .i64 0]) (t := 43) ?hr ?_; (case hd => rfl); (case hg => rfl); (case hr => first | (go_simp; done) | (go_simp; rfl)); intro gb351 hg w8 hbox hb; have n0_ := Aside0.mk (Kd.R_below (by (with_reducible repeat (first | apply rA | apply rN | apply rD)); exact HO348.out) hb); have n1_ := kb_ BK344 hb; have n2_ := bs_ HB hb; have n3_ := Aside0.mk (hbox); have n4_ := ge_ HB hg; have n5_ := ge_ HB hg; have n6_ := nlt_ BK344 hg; have n7_ := ngt_ BK344 hg; clear HO348; clear BK344; clear HB; have HO348 := n0_; have BK344 := n1_; have HB := n2_; have BK351 := n3_; have GW351 := n4_; have GE351 := n5_; have NB344_351 := n6_; have NB351_344 := n7_; clear n0_ n1_ n2_ n3_ n4_ n5_ n6_ n7_; clear hb hbox hg; have hnb9 := NB351_344.out; have hnc9 := NB344_351.out; have hcz10_0 : w8.cell? ⟨gb351, 0, none⟩ = some (.bool false) := (blk_cell BK351.out 0).trans rfl; have hcz10_1 : w8.cell? ⟨gb351, 1, none⟩ = some (.slice none 0 0) := (blk_cell BK351.out 1).trans rfl; have hcz10_2 : w8.cell? ⟨gb351, 2, none⟩ = some (.int .i64 0) := (blk_cell BK351.out 2).trans rfl; have hfz10_0 := blk_frozen BK351.out 0; have hfz10_1 := blk_frozen BK351.out 1; have hfz10_2 := blk_frozen BK351.out 2; obtain ⟨Ao11, co11, eo11⟩ := Kd.R_slice HO348.out; subst eo11; have hcz12_0 : w8.cell? ⟨gb344, 0, none⟩ = some (.bool false) := (blk_cell BK344.out 0).trans rfl; have hcz12_1 : w8.cell? ⟨gb344, 1, none⟩ = some (.slice none 0 0) := (blk_cell BK344.out 1).trans rfl; have hcz12_2 : w8.cell? ⟨gb344, 2, none⟩ = some (.int .i64 0) := (blk_cell BK344.out 2).trans rfl; have hfz12_0 := blk_frozen BK344.out 0; have hfz12_1 := blk_frozen BK344.out 1; have hfz12_2 := blk_frozen BK344.out 2))
  refine bodyPost_ret (results_ct rfl _ _ gb344 43 #[.bool t345, .slice Ao11 t346.length co11, .int .i64 t349] (0, 0) _ rfl (by (with_reducible repeat (first | apply bN | apply bD | apply bA)); refine blk_put (cs := #[.bool t345, .slice Ao11 t346.length co11, .int .i64 0]) ?_ 2 _ rfl; (with_reducible repeat (first | apply bN | apply bD | apply bA)); refine blk_put (cs := #[.bool t345, .slice none 0 0, .int .i64 0]) ?_ 1 _ rfl; (with_reducible repeat (first | apply bN | apply bD | apply bA)); refine blk_put (cs := #[.bool false, .slice none 0 0, .int .i64 0]) ?_ 0 _ rfl; (with_reducible repeat (first | apply bN | apply bD | apply bA)); refine blk_far ?_ NB344_351.out _; (with_reducible repeat (first | apply bN | apply bD | apply bA)); refine blk_far ?_ NB344_351.out _; (with_reducible repeat (first | apply bN | apply bD | apply bA)); refine blk_far ?_ NB344_351.out _; (with_reducible repeat (first | apply bN | apply bD | apply bA)); exact BK344.out) Try.underlying43 rfl (by kernel_rfl)) rfl ?_
  exact ⟨_, by first | rfl | (simp [errW_none, errW_some] <;> rfl) | (simp [*, errW_none, errW_some] <;> rfl), by (with_reducible repeat (first | apply rA | apply rN | apply rD)); exact Kd.R_mono (Kd.R_far (p := ⟨gb344, 2, none⟩) (Kd.R_far (p := ⟨gb344, 1, none⟩) (Kd.R_far (p := ⟨gb344, 0, none⟩) (Kd.R_far (p := ⟨gb351, 2, none⟩) (Kd.R_far (p := ⟨gb351, 1, none⟩) (Kd.R_far (p := ⟨gb351, 0, none⟩) (Kd.R_types (Kd.R_types HO348.out BK351.out (by decide)) BK344.out (by decide)) (fun _ hk => hk.1.2) (.bool t345)) (fun _ hk => hk.1.2) (.slice Ao11 t346.length co11)) (fun _ hk => hk.1.2) (.int .i64 t349)) (fun _ hk => hk.2) (.bool t345)) (fun _ hk => hk.2) (.slice Ao11 t346.length co11)) (fun _ hk => hk.2) (.int .i64 t349)) (fun _ hk => trivial), bl_ HB⟩
 ·replace c5 := Bool.eq_false_iff.mpr c5
  subst c5
  have H1 : (some (false, ([] : List Int), 0, 2)) = some (r1, r2, r3, r4) := by rw [if_neg (show ¬ (false = true) by decide)] at H; exact H
  clear H
  have H := H1
  clear H1
  simp only [Option.some.injEq, Prod.mk.injEq] at H
  obtain ⟨rfl, rfl, rfl, rfl⟩ := H
  go_enter Try.func59, Try.ntmps59
  go_wp2_with (first | ((with_reducible refine gate_dst (N := 6) rfl ?_); refine box_event ?hg (N := 6) ?hd (cs := #[.bool false, .slice none 0 0, .int .i64 0]) (t := 43) ?hr ?_; (case hd => rfl); (case hg => rfl); (case hr => first | (go_simp; done) | (go_simp; rfl)); intro gb344 hg w13 hbox hb; have n0_ := bs_ HB hb; have n1_ := Aside0.mk (hbox); have n2_ := ge_ HB hg; have n3_ := ge_ HB hg; clear HB; have HB := n0_; have BK344 := n1_; have GW344 := n2_; have GE344 := n3_; clear n0_ n1_ n2_ n3_; clear hb hbox hg) | ((with_reducible refine gate_callee (f := 76) rfl ?_); refine goesM (some 14) Try.func76 #[.bool a0, .slice A1 l1.length c1, .int .i64 a2] ?_; (with_reducible refine (steelyardref03_Form.calls k a0 _ _ l1 a2 t345 t346 t349 false _ ?side1 ?side2 A4.out).mono ?_); (case side1 => repeat (first | exact (Kd.C_below HR1.out HB.out) | (with_reducible first | apply cA | apply cN | apply cD))); (case side2 => exact HC1.out); rintro e w14 ⟨v347, rfl, ho0, hb⟩; refine ⟨_, rfl, ?_⟩; have n0_ := Aside0.mk (Kd.R_lower ho0 (below_size (bl_ HB))); have n1_ := kb_ BK344 hb; have n2_ := bs_ HB hb; clear BK344; clear HB; have HO348 := n0_; have BK344 := n1_; have HB := n2_; clear n0_ n1_ n2_; (try clear hb); (try clear hb2); (try clear hk); (try clear hi); (try clear ho0)) | ((with_reducible refine gate_dst (N := 8) rfl ?_); refine box_event ?hg (N := 8) ?hd (cs := #[.bool false, .slice none 0 0, .int .i64 0]) (t := 43) ?hr ?_; (case hd => rfl); (case hg => rfl); (case hr => first | (go_simp; done) | (go_simp; rfl)); intro gb351 hg w15 hbox hb; have n0_ := Aside0.mk (Kd.R_below (by (with_reducible repeat (first | apply rA | apply rN | apply rD)); exact HO348.out) hb); have n1_ := kb_ BK344 hb; have n2_ := bs_ HB hb; have n3_ := Aside0.mk (hbox); have n4_ := ge_ HB hg; have n5_ := ge_ HB hg; have n6_ := nlt_ BK344 hg; have n7_ := ngt_ BK344 hg; clear HO348; clear BK344; clear HB; have HO348 := n0_; have BK344 := n1_; have HB := n2_; have BK351 := n3_; have GW351 := n4_; have GE351 := n5_; have NB344_351 := n6_; have NB351_344 := n7_; clear n0_ n1_ n2_ n3_ n4_ n5_ n6_ n7_; clear hb hbox hg; have hnb16 := NB351_344.out; have hnc16 := NB344_351.out; have hcz17_0 : w15.cell? ⟨gb351, 0, none⟩ = some (.bool false) := (blk_cell BK351.out 0).trans rfl; have hcz17_1 : w15.cell? ⟨gb351, 1, none⟩ = some (.slice none 0 0) := (blk_cell BK351.out 1).trans rfl; have hcz17_2 : w15.cell? ⟨gb351, 2, none⟩ = some (.int .i64 0) := (blk_cell BK351.out 2).trans rfl; have hfz17_0 := blk_frozen BK351.out 0; have hfz17_1 := blk_frozen BK351.out 1; have hfz17_2 := blk_frozen BK351.out 2; obtain ⟨Ao18, co18, eo18⟩ := Kd.R_slice HO348.out; subst eo18; have hcz19_0 : w15.cell? ⟨gb344, 0, none⟩ = some (.bool false) := (blk_cell BK344.out 0).trans rfl; have hcz19_1 : w15.cell? ⟨gb344, 1, none⟩ = some (.slice none 0 0) := (blk_cell BK344.out 1).trans rfl; have hcz19_2 : w15.cell? ⟨gb344, 2, none⟩ = some (.int .i64 0) := (blk_cell BK344.out 2).trans rfl; have hfz19_0 := blk_frozen BK344.out 0; have hfz19_1 := blk_frozen BK344.out 1; have hfz19_2 := blk_frozen BK344.out 2))
  refine bodyPost_ret (results_ct rfl _ _ gb344 43 #[.bool false, .slice none 0 0, .int .i64 0] (0, 0) _ rfl (by (with_reducible repeat (first | apply bN | apply bD | apply bA)); refine blk_put (cs := #[.bool false, .slice none 0 0, .int .i64 0]) ?_ 2 _ rfl; (with_reducible repeat (first | apply bN | apply bD | apply bA)); refine blk_put (cs := #[.bool false, .slice none 0 0, .int .i64 0]) ?_ 1 _ rfl; (with_reducible repeat (first | apply bN | apply bD | apply bA)); refine blk_put (cs := #[.bool false, .slice none 0 0, .int .i64 0]) ?_ 0 _ rfl; (with_reducible repeat (first | apply bN | apply bD | apply bA)); refine blk_far ?_ NB344_351.out _; (with_reducible repeat (first | apply bN | apply bD | apply bA)); refine blk_far ?_ NB344_351.out _; (with_reducible repeat (first | apply bN | apply bD | apply bA)); refine blk_far ?_ NB344_351.out _; (with_reducible repeat (first | apply bN | apply bD | apply bA)); exact BK344.out) Try.underlying43 rfl (by kernel_rfl)) rfl ?_
  exact ⟨_, by first | rfl | (simp [errW_none, errW_some] <;> rfl) | (simp [*, errW_none, errW_some] <;> rfl), by first | exact Kd.R_nil _ _ _ _ _ | exact Kd.N_nil _ _ _ _ _ | exact Kd.V_nil _ _ _ _ _ | exact Kd.Q_nil _ _ _ _ _ | exact Kd.S_nil _ _ _ _ _, bl_ HB⟩

end Go.Proofs.Ytdemanikmaafeaa.Pr
