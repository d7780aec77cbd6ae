import Derived.Test.YtdemanikmaafeaaPairExactM0
import Derived.Test.YtdemanikmaafeaaPairExactM2
import Derived.Test.YtdemanikmaafeaaPairExactM1
-- written by this session's own program (wip/fprint.py), which widens the kit's print by floats
namespace Go.Proofs.Ytdemanikmaafeaa.Pr
open Go.RowKit Go.Proofs.YtdemanikmaafeaaW.PrintWords Go.Proofs.YtdemanikmaafeaaW.PrintLast Go.Proofs.YtdemanikmaafeaaW.PrintMore
attribute [local go_sem] max2_int min2_int max_two min_two max_three min_three max_four min_four   -- for this text's walks alone
set_option linter.unusedVariables false
set_option linter.unusedSimpArgs false

/-! ### l05_finite: function 29 -/
def l05_finite.f (k : Nat) (a0 : Nat) : Option (Bool × List Int × Int × Bool) := (r03_Of.f k a0).bind fun bt710 => (some (bt710.1, bt710.2.1, bt710.2.2.1, (bt710.2.2.2 == 0)))
theorem l05_finite.mono : ∀ a0 k, LeO (l05_finite.f k a0) (l05_finite.f (k + 1) a0) := by
 intro a0 k
 unfold l05_finite.f
 repeat' first
   | (with_reducible exact r03_Of.mono _ _)
   | (with_reducible exact LeO.refl _)
   | (with_reducible exact LeO.none _)
   | (with_reducible refine LeO.ite ?_ ?_)
   | (with_reducible refine LeO.bind ?_ (fun _ => ?_))
   | exact r03_Of.mono _ _
   | exact LeO.none _
   | refine LeO.ite ?_ ?_
   | refine LeO.bind ?_ (fun _ => ?_)
set_option maxHeartbeats 3000000 in
set_option maxRecDepth 100000 in
theorem l05_finite.calls (k : Nat) (a0 : Nat) (r1 : Bool) (r2 : List Int) (r3 : Int) (r4 : Bool) (w : World) (h : l05_finite.f k a0 = some (r1, r2, r3, r4)) :
  Calls Try.prog 29 #[.float .f64 a0] w fun e w' => ∃ v1_ : Value, e = .returned (.tuple #[.agg #[.bool r1, v1_, .int .i64 r3], .bool r4]) ∧ Kd.R (Kd.int .u32) 72 w' w.heap.size (fun _ => True) v1_ r2 ∧ Below w.heap.size w w' := by
 have hu43 := Try.underlying43
 have HB := Aside0.mk (Below.refl w.heap.size w)
 have H : ((r03_Of.f k a0).bind fun bt710 => (some (bt710.1, bt710.2.1, bt710.2.2.1, (bt710.2.2.2 == 0)))) = some (r1, r2, r3, r4) := h
 clear h
 obtain ⟨⟨t710, t711, t714, t715⟩, A2, H⟩ := ob_ H
 try dsimp only at H
 simp only [Option.some.injEq, Prod.mk.injEq] at H
 obtain ⟨rfl, rfl, rfl, rfl⟩ := H
 go_enter Try.func29, Try.ntmps29
 go_wp2_with (first | ((with_reducible refine gate_dst (N := 2) rfl ?_); refine box_event ?hg (N := 2) ?hd (cs := #[.bool false, .slice none 0 0, .int .i64 0]) (t := 43) ?hr ?_; (case hd => rfl); (case hg => rfl); (case hr => first | (go_simp; done) | (go_simp; rfl)); intro gb709 hg w3 hbox hb; have n0_ := bs_ HB hb; have n1_ := Aside0.mk (hbox); have n2_ := ge_ HB hg; have n3_ := ge_ HB hg; clear HB; have HB := n0_; have BK709 := n1_; have GW709 := n2_; have GE709 := n3_; clear n0_ n1_ n2_ n3_; clear hb hbox hg) | ((with_reducible refine gate_callee (f := 50) rfl ?_); refine goesM (some 8) Try.func50 #[.float .f64 a0] ?_; (with_reducible refine (r03_Of.calls k a0 t710 t711 t714 t715 _ A2.out).mono ?_); rintro e w4 ⟨v712, rfl, ho0, hb⟩; refine ⟨_, rfl, ?_⟩; have n0_ := Aside0.mk (Kd.R_lower ho0 (below_size (bl_ HB))); have n1_ := kb_ BK709 hb; have n2_ := bs_ HB hb; clear BK709; clear HB; have HO713 := n0_; have BK709 := n1_; have HB := n2_; clear n0_ n1_ n2_; (try clear hb); (try clear hb2); (try clear hk); (try clear hi); (try clear ho0)) | ((with_reducible refine gate_dst (N := 4) rfl ?_); refine box_event ?hg (N := 4) ?hd (cs := #[.bool false, .slice none 0 0, .int .i64 0]) (t := 43) ?hr ?_; (case hd => rfl); (case hg => rfl); (case hr => first | (go_simp; done) | (go_simp; rfl)); intro gb716 hg w5 hbox hb; have n0_ := Aside0.mk (Kd.R_below (rr_ HO713) hb); have n1_ := kb_ BK709 hb; have n2_ := bs_ HB hb; have n3_ := Aside0.mk (hbox); have n4_ := ge_ HB hg; have n5_ := ge_ HB hg; have n6_ := nlt_ BK709 hg; have n7_ := ngt_ BK709 hg; clear HO713; clear BK709; clear HB; have HO713 := n0_; have BK709 := n1_; have HB := n2_; have BK716 := n3_; have GW716 := n4_; have GE716 := n5_; have NB709_716 := n6_; have NB716_709 := n7_; clear n0_ n1_ n2_ n3_ n4_ n5_ n6_ n7_; clear hb hbox hg; have hnb6 := NB716_709.out; have hnc6 := NB709_716.out; have hcz7_0 : w5.cell? ⟨gb716, 0, none⟩ = some (.bool false) := (blk_cell BK716.out 0).trans rfl; have hcz7_1 : w5.cell? ⟨gb716, 1, none⟩ = some (.slice none 0 0) := (blk_cell BK716.out 1).trans rfl; have hcz7_2 : w5.cell? ⟨gb716, 2, none⟩ = some (.int .i64 0) := (blk_cell BK716.out 2).trans rfl; have hfz7_0 := blk_frozen BK716.out 0; have hfz7_1 := blk_frozen BK716.out 1; have hfz7_2 := blk_frozen BK716.out 2; obtain ⟨Ao8, co8, eo8⟩ := Kd.R_slice HO713.out; subst eo8; have hcz9_0 : w5.cell? ⟨gb709, 0, none⟩ = some (.bool false) := (blk_cell BK709.out 0).trans rfl; have hcz9_1 : w5.cell? ⟨gb709, 1, none⟩ = some (.slice none 0 0) := (blk_cell BK709.out 1).trans rfl; have hcz9_2 : w5.cell? ⟨gb709, 2, none⟩ = some (.int .i64 0) := (blk_cell BK709.out 2).trans rfl; have hfz9_0 := blk_frozen BK709.out 0; have hfz9_1 := blk_frozen BK709.out 1; have hfz9_2 := blk_frozen BK709.out 2))
 refine bodyPost_ret (results_ct rfl _ _ gb709 43 #[.bool t710, .slice Ao8 t711.length co8, .int .i64 t714] (0, 0) _ rfl (by (with_reducible repeat (first | apply bN | apply bD | apply bA)); refine blk_put (cs := #[.bool t710, .slice Ao8 t711.length co8, .int .i64 0]) ?_ 2 _ rfl; (with_reducible repeat (first | apply bN | apply bD | apply bA)); refine blk_put (cs := #[.bool t710, .slice none 0 0, .int .i64 0]) ?_ 1 _ rfl; (with_reducible repeat (first | apply bN | apply bD | apply bA)); refine blk_put (cs := #[.bool false, .slice none 0 0, .int .i64 0]) ?_ 0 _ rfl; (with_reducible repeat (first | apply bN | apply bD | apply bA)); refine blk_far ?_ NB709_716.out _; (with_reducible repeat (first | apply bN | apply bD | apply bA)); refine blk_far ?_ NB709_716.out _; (with_reducible repeat (first | apply bN | apply bD | apply bA)); refine blk_far ?_ NB709_716.out _; exact bk_ BK709) Try.underlying43 rfl (by kernel_rfl)) rfl ?_
 exact ⟨_, by first | rfl | (simp [errW_none, errW_some] <;> rfl) | (simp [*, errW_none, errW_some] <;> rfl), by (with_reducible repeat (first | apply rA | apply rN | apply rD)); exact Kd.R_mono (Kd.R_far (p := ⟨gb709, 2, none⟩) (Kd.R_far (p := ⟨gb709, 1, none⟩) (Kd.R_far (p := ⟨gb709, 0, none⟩) (Kd.R_far (p := ⟨gb716, 2, none⟩) (Kd.R_far (p := ⟨gb716, 1, none⟩) (Kd.R_far (p := ⟨gb716, 0, none⟩) (Kd.R_types (Kd.R_types HO713.out BK716.out (by decide)) BK709.out (by decide)) (fun _ hk => hk.1.2) (.bool t710)) (fun _ hk => hk.1.2) (.slice Ao8 t711.length co8)) (fun _ hk => hk.1.2) (.int .i64 t714)) (fun _ hk => hk.2) (.bool t710)) (fun _ hk => hk.2) (.slice Ao8 t711.length co8)) (fun _ hk => hk.2) (.int .i64 t714)) (fun _ hk => trivial), bl_ HB⟩

/-! ### r03_Sign: function 73 -/
def r03_Sign.f (k : Nat) (a0_0 : Bool) (l0_1 : List Int) (a0_2 : Int) : Option (Int) := (r02_Len.f k l0_1).bind fun t718 => (if t718 = 0 then (some 0) else (if a0_0 = true then (some (-1)) else (some 1)))
theorem r03_Sign.mono : ∀ a0 a1 a2 k, LeO (r03_Sign.f k a0 a1 a2) (r03_Sign.f (k + 1) a0 a1 a2) := by
 intro a0 a1 a2 k
 unfold r03_Sign.f
 repeat' first
   | (with_reducible exact r02_Len.mono _ _)
   | (with_reducible exact LeO.refl _)
   | (with_reducible exact LeO.none _)
   | (with_reducible refine LeO.ite ?_ ?_)
   | (with_reducible refine LeO.bind ?_ (fun _ => ?_))
   | exact r02_Len.mono _ _
   | exact LeO.none _
   | refine LeO.ite ?_ ?_
   | refine LeO.bind ?_ (fun _ => ?_)
set_option maxHeartbeats 3000000 in
set_option maxRecDepth 100000 in
theorem r03_Sign.calls (k : Nat) (a0_0 : Bool) (A0_1 : Option Addr) (c0_1 : Nat) (l0_1 : List Int) (a0_2 : Int) (r : Int) (w : World) (hr0_1 : Kd.C (Kd.int .u32) w A0_1 l0_1.length l0_1) (hc0_1 : l0_1.length ≤ c0_1) (h : r03_Sign.f k a0_0 l0_1 a0_2 = some r) :
  Calls Try.prog 73 #[.agg #[.bool a0_0, .slice A0_1 l0_1.length c0_1, .int .i64 a0_2]] w fun e w' => e = .returned (.int .i64 r) ∧ Below w.heap.size w w' := by
 have hu43 := Try.underlying43
 have HR0_1 := Aside0.mk hr0_1
 have HC0_1 := Aside0.mk hc0_1
 clear hr0_1 hc0_1
 have HB := Aside0.mk (Below.refl w.heap.size w)
 have H : ((r02_Len.f k l0_1).bind fun t718 => (if t718 = 0 then (some 0) else (if a0_0 = true then (some (-1)) else (some 1)))) = some r := h
 clear h
 obtain ⟨t718, A2, H⟩ := ob_ H
 try dsimp only at H
 by_cases c3 : t718 = 0
 ·rw [if_pos c3] at H
  have c3b0 : (t718 == 0) = true := beq_iff_eq.mpr c3
  have c3b1 : (t718 != 0) = false := bne_eq_false_iff_eq.mpr c3
  clear c3
  obtain rfl := Option.some.inj H
  go_enter Try.func73, Try.ntmps73
  go_wp2_with (first | ((with_reducible refine gate_dst (N := 1) rfl ?_); refine box_event ?hg (N := 1) ?hd (cs := #[.bool a0_0, .slice A0_1 l0_1.length c0_1, .int .i64 a0_2]) (t := 43) ?hr ?_; (case hd => rfl); (case hg => rfl); (case hr => first | (go_simp; done) | (go_simp; rfl)); intro gb717 hg w4 hbox hb; have n0_ := bs_ HB hb; have n1_ := Aside0.mk (hbox); have n2_ := ge_ HB hg; have n3_ := ge_ HB hg; clear HB; have HB := n0_; have BK717 := n1_; have GW717 := n2_; have GE717 := n3_; clear n0_ n1_ n2_ n3_; clear hb hbox hg; have hcz5_0 : w4.cell? ⟨gb717, 0, none⟩ = some (.bool a0_0) := (blk_cell BK717.out 0).trans rfl; have hcz5_1 : w4.cell? ⟨gb717, 1, none⟩ = some (.slice A0_1 l0_1.length c0_1) := (blk_cell BK717.out 1).trans rfl; have hcz5_2 : w4.cell? ⟨gb717, 2, none⟩ = some (.int .i64 a0_2) := (blk_cell BK717.out 2).trans rfl; have hfz5_0 := blk_frozen BK717.out 0; have hfz5_1 := blk_frozen BK717.out 1; have hfz5_2 := blk_frozen BK717.out 2) | ((with_reducible refine gate_callee (f := 55) rfl ?_); refine goesM (some 5) Try.func55 #[.slice A0_1 l0_1.length c0_1] ?_; (with_reducible refine (r02_Len.calls k _ _ l0_1 t718 _ ?side1 ?side2 A2.out).mono ?_); (case side1 => repeat (first | exact (Kd.C_below HR0_1.out HB.out) | (with_reducible first | apply cA | apply cN | apply cD))); (case side2 => exact HC0_1.out); rintro e w' ⟨rfl, ⟨nd, rfl⟩⟩; refine ⟨_, rfl, ?_⟩))
  go_ret
  exact ⟨by first | rfl | (simp [errW_none, errW_some] <;> rfl) | (simp [*, errW_none, errW_some] <;> rfl), bl_ HB⟩
 ·rw [if_neg c3] at H
  have c3b0 : (t718 == 0) = false := beq_eq_false_iff_ne.mpr c3
  have c3b1 : (t718 != 0) = true := bne_iff_ne.mpr c3
  by_cases c6 : a0_0 = true
  ·subst c6
   have H1 : (some (-1)) = some r := by rw [if_pos rfl] at H; exact H
   clear H
   have H := H1
   clear H1
   obtain rfl := Option.some.inj H
   go_enter Try.func73, Try.ntmps73
   go_wp2_with (first | ((with_reducible refine gate_dst (N := 1) rfl ?_); refine box_event ?hg (N := 1) ?hd (cs := #[.bool true, .slice A0_1 l0_1.length c0_1, .int .i64 a0_2]) (t := 43) ?hr ?_; (case hd => rfl); (case hg => rfl); (case hr => first | (go_simp; done) | (go_simp; rfl)); intro gb717 hg w7 hbox hb; have n0_ := bs_ HB hb; have n1_ := Aside0.mk (hbox); have n2_ := ge_ HB hg; have n3_ := ge_ HB hg; clear HB; have HB := n0_; have BK717 := n1_; have GW717 := n2_; have GE717 := n3_; clear n0_ n1_ n2_ n3_; clear hb hbox hg; have hcz8_0 : w7.cell? ⟨gb717, 0, none⟩ = some (.bool true) := (blk_cell BK717.out 0).trans rfl; have hcz8_1 : w7.cell? ⟨gb717, 1, none⟩ = some (.slice A0_1 l0_1.length c0_1) := (blk_cell BK717.out 1).trans rfl; have hcz8_2 : w7.cell? ⟨gb717, 2, none⟩ = some (.int .i64 a0_2) := (blk_cell BK717.out 2).trans rfl; have hfz8_0 := blk_frozen BK717.out 0; have hfz8_1 := blk_frozen BK717.out 1; have hfz8_2 := blk_frozen BK717.out 2) | ((with_reducible refine gate_callee (f := 55) rfl ?_); refine goesM (some 5) Try.func55 #[.slice A0_1 l0_1.length c0_1] ?_; (with_reducible refine (r02_Len.calls k _ _ l0_1 t718 _ ?side1 ?side2 A2.out).mono ?_); (case side1 => repeat (first | exact (Kd.C_below HR0_1.out HB.out) | (with_reducible first | apply cA | apply cN | apply cD))); (case side2 => exact HC0_1.out); rintro e w' ⟨rfl, ⟨nd, rfl⟩⟩; refine ⟨_, rfl, ?_⟩))
   go_ret
   exact ⟨by first | rfl | (simp [errW_none, errW_some] <;> rfl) | (simp [*, errW_none, errW_some] <;> rfl), bl_ HB⟩
  ·replace c6 := Bool.eq_false_iff.mpr c6
   subst c6
   have H1 : (some 1) = some r := by rw [if_neg (show ¬ (false = true) by decide)] at H; exact H
   clear H
   have H := H1
   clear H1
   obtain rfl := Option.some.inj H
   go_enter Try.func73, Try.ntmps73
   go_wp2_with (first | ((with_reducible refine gate_dst (N := 1) rfl ?_); refine box_event ?hg (N := 1) ?hd (cs := #[.bool false, .slice A0_1 l0_1.length c0_1, .int .i64 a0_2]) (t := 43) ?hr ?_; (case hd => rfl); (case hg => rfl); (case hr => first | (go_simp; done) | (go_simp; rfl)); intro gb717 hg w9 hbox hb; have n0_ := bs_ HB hb; have n1_ := Aside0.mk (hbox); have n2_ := ge_ HB hg; have n3_ := ge_ HB hg; clear HB; have HB := n0_; have BK717 := n1_; have GW717 := n2_; have GE717 := n3_; clear n0_ n1_ n2_ n3_; clear hb hbox hg; have hcz10_0 : w9.cell? ⟨gb717, 0, none⟩ = some (.bool false) := (blk_cell BK717.out 0).trans rfl; have hcz10_1 : w9.cell? ⟨gb717, 1, none⟩ = some (.slice A0_1 l0_1.length c0_1) := (blk_cell BK717.out 1).trans rfl; have hcz10_2 : w9.cell? ⟨gb717, 2, none⟩ = some (.int .i64 a0_2) := (blk_cell BK717.out 2).trans rfl; have hfz10_0 := blk_frozen BK717.out 0; have hfz10_1 := blk_frozen BK717.out 1; have hfz10_2 := blk_frozen BK717.out 2) | ((with_reducible refine gate_callee (f := 55) rfl ?_); refine goesM (some 5) Try.func55 #[.slice A0_1 l0_1.length c0_1] ?_; (with_reducible refine (r02_Len.calls k _ _ l0_1 t718 _ ?side1 ?side2 A2.out).mono ?_); (case side1 => repeat (first | exact (Kd.C_below HR0_1.out HB.out) | (with_reducible first | apply cA | apply cN | apply cD))); (case side2 => exact HC0_1.out); rintro e w' ⟨rfl, ⟨nd, rfl⟩⟩; refine ⟨_, rfl, ?_⟩))
   go_ret
   exact ⟨by first | rfl | (simp [errW_none, errW_some] <;> rfl) | (simp [*, errW_none, errW_some] <;> rfl), bl_ HB⟩

/-! ### r03_Cmp: function 53 -/
def r03_Cmp.f (k : Nat) (a0_0 : Bool) (l0_1 : List Int) (a0_2 : Int) (a1_0 : Bool) (l1_1 : List Int) (a1_2 : Int) : Option (Int) := (r03_Sign.f k a0_0 l0_1 a0_2).bind fun t721 => ((r03_Sign.f k a1_0 l1_1 a1_2).bind fun t722 => (if t721 < t722 then (some (-1)) else (if t721 > t722 then (some 1) else (if t721 < 0 then ((r03_Against.f k l1_1 a1_2 l0_1 a0_2).bind fun t723 => (some t723)) else ((r03_Against.f k l0_1 a0_2 l1_1 a1_2).bind fun t724 => (some t724))))))
theorem r03_Cmp.mono : ∀ a0 a1 a2 a3 a4 a5 k, LeO (r03_Cmp.f k a0 a1 a2 a3 a4 a5) (r03_Cmp.f (k + 1) a0 a1 a2 a3 a4 a5) := by
 intro a0 a1 a2 a3 a4 a5 k
 unfold r03_Cmp.f
 repeat' first
   | (with_reducible exact r03_Against.mono _ _ _ _ _)
   | (with_reducible exact r03_Sign.mono _ _ _ _)
   | (with_reducible exact LeO.refl _)
   | (with_reducible exact LeO.none _)
   | (with_reducible refine LeO.ite ?_ ?_)
   | (with_reducible refine LeO.bind ?_ (fun _ => ?_))
   | exact r03_Against.mono _ _ _ _ _
   | exact r03_Sign.mono _ _ _ _
   | exact LeO.none _
   | refine LeO.ite ?_ ?_
   | refine LeO.bind ?_ (fun _ => ?_)
set_option maxHeartbeats 3000000 in
set_option maxRecDepth 100000 in
theorem r03_Cmp.calls (k : Nat) (a0_0 : Bool) (A0_1 : Option Addr) (c0_1 : Nat) (l0_1 : List Int) (a0_2 : Int) (a1_0 : Bool) (A1_1 : Option Addr) (c1_1 : Nat) (l1_1 : List Int) (a1_2 : Int) (r : Int) (w : World) (hr0_1 : Kd.C (Kd.int .u32) w A0_1 l0_1.length l0_1) (hc0_1 : l0_1.length ≤ c0_1) (hr1_1 : Kd.C (Kd.int .u32) w A1_1 l1_1.length l1_1) (hc1_1 : l1_1.length ≤ c1_1) (h : r03_Cmp.f k a0_0 l0_1 a0_2 a1_0 l1_1 a1_2 = some r) :
  Calls Try.prog 53 #[.agg #[.bool a0_0, .slice A0_1 l0_1.length c0_1, .int .i64 a0_2], .agg #[.bool a1_0, .slice A1_1 l1_1.length c1_1, .int .i64 a1_2]] w fun e w' => e = .returned (.int .i64 r) ∧ Below w.heap.size w w' := by
 have hu43 := Try.underlying43
 have HR0_1 := Aside0.mk hr0_1
 have HC0_1 := Aside0.mk hc0_1
 clear hr0_1 hc0_1
 have HR1_1 := Aside0.mk hr1_1
 have HC1_1 := Aside0.mk hc1_1
 clear hr1_1 hc1_1
 have HB := Aside0.mk (Below.refl w.heap.size w)
 have H : ((r03_Sign.f k a0_0 l0_1 a0_2).bind fun t721 => ((r03_Sign.f k a1_0 l1_1 a1_2).bind fun t722 => (if t721 < t722 then (some (-1)) else (if t721 > t722 then (some 1) else (if t721 < 0 then ((r03_Against.f k l1_1 a1_2 l0_1 a0_2).bind fun t723 => (some t723)) else ((r03_Against.f k l0_1 a0_2 l1_1 a1_2).bind fun t724 => (some t724))))))) = some r := h
 clear h
 obtain ⟨t721, A3, H⟩ := ob_ H
 try dsimp only at H
 obtain ⟨t722, A4, H⟩ := ob_ H
 try dsimp only at H
 by_cases c5 : t721 < t722
 ·rw [if_pos c5] at H
  have c5b0 : decide (t721 < t722) = true := decide_eq_true c5
  clear c5
  obtain rfl := Option.some.inj H
  go_enter Try.func53, Try.ntmps53
  go_wp2_with (first | ((with_reducible refine gate_dst (N := 2) rfl ?_); refine box_event ?hg (N := 2) ?hd (cs := #[.bool a0_0, .slice A0_1 l0_1.length c0_1, .int .i64 a0_2]) (t := 43) ?hr ?_; (case hd => rfl); (case hg => rfl); (case hr => first | (go_simp; done) | (go_simp; rfl)); intro gb719 hg w6 hbox hb; have n0_ := bs_ HB hb; have n1_ := Aside0.mk (hbox); have n2_ := ge_ HB hg; have n3_ := ge_ HB hg; clear HB; have HB := n0_; have BK719 := n1_; have GW719 := n2_; have GE719 := n3_; clear n0_ n1_ n2_ n3_; clear hb hbox hg) | ((with_reducible refine gate_dst (N := 3) rfl ?_); refine box_event ?hg (N := 3) ?hd (cs := #[.bool a1_0, .slice A1_1 l1_1.length c1_1, .int .i64 a1_2]) (t := 43) ?hr ?_; (case hd => rfl); (case hg => rfl); (case hr => first | (go_simp; done) | (go_simp; rfl)); intro gb720 hg w7 hbox hb; have n0_ := kb_ BK719 hb; have n1_ := bs_ HB hb; have n2_ := Aside0.mk (hbox); have n3_ := ge_ HB hg; have n4_ := ge_ HB hg; have n5_ := nlt_ BK719 hg; have n6_ := ngt_ BK719 hg; clear BK719; clear HB; have BK719 := n0_; have HB := n1_; have BK720 := n2_; have GW720 := n3_; have GE720 := n4_; have NB719_720 := n5_; have NB720_719 := n6_; clear n0_ n1_ n2_ n3_ n4_ n5_ n6_; clear hb hbox hg; have hnb8 := NB719_720.out; have hnc8 := NB720_719.out; have hcz9_0 : w7.cell? ⟨gb719, 0, none⟩ = some (.bool a0_0) := (blk_cell BK719.out 0).trans rfl; have hcz9_1 : w7.cell? ⟨gb719, 1, none⟩ = some (.slice A0_1 l0_1.length c0_1) := (blk_cell BK719.out 1).trans rfl; have hcz9_2 : w7.cell? ⟨gb719, 2, none⟩ = some (.int .i64 a0_2) := (blk_cell BK719.out 2).trans rfl; have hfz9_0 := blk_frozen BK719.out 0; have hfz9_1 := blk_frozen BK719.out 1; have hfz9_2 := blk_frozen BK719.out 2) | ((with_reducible refine gate_callee (f := 73) rfl ?_); refine goesM (some 8) Try.func73 #[.agg #[.bool a0_0, .slice A0_1 l0_1.length c0_1, .int .i64 a0_2]] ?_; (with_reducible refine (r03_Sign.calls k a0_0 _ _ l0_1 a0_2 t721 _ ?side1 ?side2 A3.out).mono ?_); (case side1 => repeat (first | exact (Kd.C_below HR0_1.out HB.out) | (with_reducible first | apply cA | apply cN | apply cD))); (case side2 => exact HC0_1.out); rintro e w10 ⟨rfl, hb⟩; refine ⟨_, rfl, ?_⟩; have n0_ := kb_ BK719 hb; have n1_ := kb_ BK720 hb; have n2_ := bs_ HB hb; clear BK719; clear BK720; clear HB; have BK719 := n0_; have BK720 := n1_; have HB := n2_; clear n0_ n1_ n2_; (try clear hb); (try clear hb2); (try clear hk); (try clear hi); have hcz11_0 : w10.cell? ⟨gb720, 0, none⟩ = some (.bool a1_0) := (blk_cell BK720.out 0).trans rfl; have hcz11_1 : w10.cell? ⟨gb720, 1, none⟩ = some (.slice A1_1 l1_1.length c1_1) := (blk_cell BK720.out 1).trans rfl; have hcz11_2 : w10.cell? ⟨gb720, 2, none⟩ = some (.int .i64 a1_2) := (blk_cell BK720.out 2).trans rfl; have hfz11_0 := blk_frozen BK720.out 0; have hfz11_1 := blk_frozen BK720.out 1; have hfz11_2 := blk_frozen BK720.out 2) | ((with_reducible refine gate_callee (f := 73) rfl ?_); refine goesM (some 10) Try.func73 #[.agg #[.bool a1_0, .slice A1_1 l1_1.length c1_1, .int .i64 a1_2]] ?_; (with_reducible refine (r03_Sign.calls k a1_0 _ _ l1_1 a1_2 t722 _ ?side1 ?side2 A4.out).mono ?_); (case side1 => repeat (first | exact (Kd.C_below HR1_1.out HB.out) | (with_reducible first | apply cA | apply cN | apply cD))); (case side2 => exact HC1_1.out); rintro e w12 ⟨rfl, hb⟩; refine ⟨_, rfl, ?_⟩; have n0_ := kb_ BK719 hb; have n1_ := kb_ BK720 hb; have n2_ := bs_ HB hb; clear BK719; clear BK720; clear HB; have BK719 := n0_; have BK720 := n1_; have HB := n2_; clear n0_ n1_ n2_; (try clear hb); (try clear hb2); (try clear hk); (try clear hi)))
  go_ret
  exact ⟨by first | rfl | (simp [errW_none, errW_some] <;> rfl) | (simp [*, errW_none, errW_some] <;> rfl), bl_ HB⟩
 ·rw [if_neg c5] at H
  have c5b0 : decide (t721 < t722) = false := decide_eq_false c5
  clear c5
  by_cases c13 : t721 > t722
  ·rw [if_pos c13] at H
   have c13b0 : decide (t722 < t721) = true := decide_eq_true c13
   clear c13
   obtain rfl := Option.some.inj H
   go_enter Try.func53, Try.ntmps53
   go_wp2_with (first | ((with_reducible refine gate_dst (N := 2) rfl ?_); refine box_event ?hg (N := 2) ?hd (cs := #[.bool a0_0, .slice A0_1 l0_1.length c0_1, .int .i64 a0_2]) (t := 43) ?hr ?_; (case hd => rfl); (case hg => rfl); (case hr => first | (go_simp; done) | (go_simp; rfl)); intro gb719 hg w14 hbox hb; have n0_ := bs_ HB hb; have n1_ := Aside0.mk (hbox); have n2_ := ge_ HB hg; have n3_ := ge_ HB hg; clear HB; have HB := n0_; have BK719 := n1_; have GW719 := n2_; have GE719 := n3_; clear n0_ n1_ n2_ n3_; clear hb hbox hg) | ((with_reducible refine gate_dst (N := 3) rfl ?_); refine box_event ?hg (N := 3) ?hd (cs := #[.bool a1_0, .slice A1_1 l1_1.length c1_1, .int .i64 a1_2]) (t := 43) ?hr ?_; (case hd => rfl); (case hg => rfl); (case hr => first | (go_simp; done) | (go_simp; rfl)); intro gb720 hg w15 hbox hb; have n0_ := kb_ BK719 hb; have n1_ := bs_ HB hb; have n2_ := Aside0.mk (hbox); have n3_ := ge_ HB hg; have n4_ := ge_ HB hg; have n5_ := nlt_ BK719 hg; have n6_ := ngt_ BK719 hg; clear BK719; clear HB; have BK719 := n0_; have HB := n1_; have BK720 := n2_; have GW720 := n3_; have GE720 := n4_; have NB719_720 := n5_; have NB720_719 := n6_; clear n0_ n1_ n2_ n3_ n4_ n5_ n6_; clear hb hbox hg; have hnb16 := NB719_720.out; have hnc16 := NB720_719.out; have hcz17_0 : w15.cell? ⟨gb719, 0, none⟩ = some (.bool a0_0) := (blk_cell BK719.out 0).trans rfl; have hcz17_1 : w15.cell? ⟨gb719, 1, none⟩ = some (.slice A0_1 l0_1.length c0_1) := (blk_cell BK719.out 1).trans rfl; have hcz17_2 : w15.cell? ⟨gb719, 2, none⟩ = some (.int .i64 a0_2) := (blk_cell BK719.out 2).trans rfl; have hfz17_0 := blk_frozen BK719.out 0; have hfz17_1 := blk_frozen BK719.out 1; have hfz17_2 := blk_frozen BK719.out 2) | ((with_reducible refine gate_callee (f := 73) rfl ?_); refine goesM (some 8) Try.func73 #[.agg #[.bool a0_0, .slice A0_1 l0_1.length c0_1, .int .i64 a0_2]] ?_; (with_reducible refine (r03_Sign.calls k a0_0 _ _ l0_1 a0_2 t721 _ ?side1 ?side2 A3.out).mono ?_); (case side1 => repeat (first | exact (Kd.C_below HR0_1.out HB.out) | (with_reducible first | apply cA | apply cN | apply cD))); (case side2 => exact HC0_1.out); rintro e w18 ⟨rfl, hb⟩; refine ⟨_, rfl, ?_⟩; have n0_ := kb_ BK719 hb; have n1_ := kb_ BK720 hb; have n2_ := bs_ HB hb; clear BK719; clear BK720; clear HB; have BK719 := n0_; have BK720 := n1_; have HB := n2_; clear n0_ n1_ n2_; (try clear hb); (try clear hb2); (try clear hk); (try clear hi); have hcz19_0 : w18.cell? ⟨gb720, 0, none⟩ = some (.bool a1_0) := (blk_cell BK720.out 0).trans rfl; have hcz19_1 : w18.cell? ⟨gb720, 1, none⟩ = some (.slice A1_1 l1_1.length c1_1) := (blk_cell BK720.out 1).trans rfl; have hcz19_2 : w18.cell? ⟨gb720, 2, none⟩ = some (.int .i64 a1_2) := (blk_cell BK720.out 2).trans rfl; have hfz19_0 := blk_frozen BK720.out 0; have hfz19_1 := blk_frozen BK720.out 1; have hfz19_2 := blk_frozen BK720.out 2) | ((with_reducible refine gate_callee (f := 73) rfl ?_); refine goesM (some 10) Try.func73 #[.agg #[.bool a1_0, .slice A1_1 l1_1.length c1_1, .int .i64 a1_2]] ?_; (with_reducible refine (r03_Sign.calls k a1_0 _ _ l1_1 a1_2 t722 _ ?side1 ?side2 A4.out).mono ?_); (case side1 => repeat (first | exact (Kd.C_below HR1_1.out HB.out) | (with_reducible first | apply cA | apply cN | apply cD))); (case side2 => exact HC1_1.out); rintro e w20 ⟨rfl, hb⟩; refine ⟨_, rfl, ?_⟩; have n0_ := kb_ BK719 hb; have n1_ := kb_ BK720 hb; have n2_ := bs_ HB hb; clear BK719; clear BK720; clear HB; have BK719 := n0_; have BK720 := n1_; have HB := n2_; clear n0_ n1_ n2_; (try clear hb); (try clear hb2); (try clear hk); (try clear hi)))
   go_ret
   exact ⟨by first | rfl | (simp [errW_none, errW_some] <;> rfl) | (simp [*, errW_none, errW_some] <;> rfl), bl_ HB⟩
  ·rw [if_neg c13] at H
   have c13b0 : decide (t722 < t721) = false := decide_eq_false c13
   clear c13
   by_cases c21 : t721 < 0
   ·rw [if_pos c21] at H
    have c21b0 : decide (t721 < 0) = true := decide_eq_true c21
    clear c21
    obtain ⟨t723, A22, H⟩ := ob_ H
    try dsimp only at H
    obtain rfl := Option.some.inj H
    go_enter Try.func53, Try.ntmps53
    go_wp2_with (first | ((with_reducible refine gate_dst (N := 2) rfl ?_); refine box_event ?hg (N := 2) ?hd (cs := #[.bool a0_0, .slice A0_1 l0_1.length c0_1, .int .i64 a0_2]) (t := 43) ?hr ?_; (case hd => rfl); (case hg => rfl); (case hr => first | (go_simp; done) | (go_simp; rfl)); intro gb719 hg w23 hbox hb; have n0_ := bs_ HB hb; have n1_ := Aside0.mk (hbox); have n2_ := ge_ HB hg; have n3_ := ge_ HB hg; clear HB; have HB := n0_; have BK719 := n1_; have GW719 := n2_; have GE719 := n3_; clear n0_ n1_ n2_ n3_; clear hb hbox hg) | ((with_reducible refine gate_dst (N := 3) rfl ?_); refine box_event ?hg (N := 3) ?hd (cs := #[.bool a1_0, .slice A1_1 l1_1.length c1_1, .int .i64 a1_2]) (t := 43) ?hr ?_; (case hd => rfl); (case hg => rfl); (case hr => first | (go_simp; done) | (go_simp; rfl)); intro gb720 hg w24 hbox hb; have n0_ := kb_ BK719 hb; have n1_ := bs_ HB hb; have n2_ := Aside0.mk (hbox); have n3_ := ge_ HB hg; have n4_ := ge_ HB hg; have n5_ := nlt_ BK719 hg; have n6_ := ngt_ BK719 hg; clear BK719; clear HB; have BK719 := n0_; have HB := n1_; have BK720 := n2_; have GW720 := n3_; have GE720 := n4_; have NB719_720 := n5_; have NB720_719 := n6_; clear n0_ n1_ n2_ n3_ n4_ n5_ n6_; clear hb hbox hg; have hnb25 := NB719_720.out; have hnc25 := NB720_719.out; have hcz26_0 : w24.cell? ⟨gb719, 0, none⟩ = some (.bool a0_0) := (blk_cell BK719.out 0).trans rfl; have hcz26_1 : w24.cell? ⟨gb719, 1, none⟩ = some (.slice A0_1 l0_1.length c0_1) := (blk_cell BK719.out 1).trans rfl; have hcz26_2 : w24.cell? ⟨gb719, 2, none⟩ = some (.int .i64 a0_2) := (blk_cell BK719.out 2).trans rfl; have hfz26_0 := blk_frozen BK719.out 0; have hfz26_1 := blk_frozen BK719.out 1; have hfz26_2 := blk_frozen BK719.out 2) | ((with_reducible refine gate_callee (f := 73) rfl ?_); refine goesM (some 8) Try.func73 #[.agg #[.bool a0_0, .slice A0_1 l0_1.length c0_1, .int .i64 a0_2]] ?_; (with_reducible refine (r03_Sign.calls k a0_0 _ _ l0_1 a0_2 t721 _ ?side1 ?side2 A3.out).mono ?_); (case side1 => repeat (first | exact (Kd.C_below HR0_1.out HB.out) | (with_reducible first | apply cA | apply cN | apply cD))); (case side2 => exact HC0_1.out); rintro e w27 ⟨rfl, hb⟩; refine ⟨_, rfl, ?_⟩; have n0_ := kb_ BK719 hb; have n1_ := kb_ BK720 hb; have n2_ := bs_ HB hb; clear BK719; clear BK720; clear HB; have BK719 := n0_; have BK720 := n1_; have HB := n2_; clear n0_ n1_ n2_; (try clear hb); (try clear hb2); (try clear hk); (try clear hi); have hcz28_0 : w27.cell? ⟨gb720, 0, none⟩ = some (.bool a1_0) := (blk_cell BK720.out 0).trans rfl; have hcz28_1 : w27.cell? ⟨gb720, 1, none⟩ = some (.slice A1_1 l1_1.length c1_1) := (blk_cell BK720.out 1).trans rfl; have hcz28_2 : w27.cell? ⟨gb720, 2, none⟩ = some (.int .i64 a1_2) := (blk_cell BK720.out 2).trans rfl; have hfz28_0 := blk_frozen BK720.out 0; have hfz28_1 := blk_frozen BK720.out 1; have hfz28_2 := blk_frozen BK720.out 2) | ((with_reducible refine gate_callee (f := 73) rfl ?_); refine goesM (some 10) Try.func73 #[.agg #[.bool a1_0, .slice A1_1 l1_1.length c1_1, .int .i64 a1_2]] ?_; (with_reducible refine (r03_Sign.calls k a1_0 _ _ l1_1 a1_2 t722 _ ?side1 ?side2 A4.out).mono ?_); (case side1 => repeat (first | exact (Kd.C_below HR1_1.out HB.out) | (with_reducible first | apply cA | apply cN | apply cD))); (case side2 => exact HC1_1.out); rintro e w29 ⟨rfl, hb⟩; refine ⟨_, rfl, ?_⟩; have n0_ := kb_ BK719 hb; have n1_ := kb_ BK720 hb; have n2_ := bs_ HB hb; clear BK719; clear BK720; clear HB; have BK719 := n0_; have BK720 := n1_; have HB := n2_; clear n0_ n1_ n2_; (try clear hb); (try clear hb2); (try clear hk); (try clear hi); have hcz30_0 : w29.cell? ⟨gb720, 0, none⟩ = some (.bool a1_0) := (blk_cell BK720.out 0).trans rfl; have hcz30_1 : w29.cell? ⟨gb720, 1, none⟩ = some (.slice A1_1 l1_1.length c1_1) := (blk_cell BK720.out 1).trans rfl; have hcz30_2 : w29.cell? ⟨gb720, 2, none⟩ = some (.int .i64 a1_2) := (blk_cell BK720.out 2).trans rfl; have hfz30_0 := blk_frozen BK720.out 0; have hfz30_1 := blk_frozen BK720.out 1; have hfz30_2 := blk_frozen BK720.out 2; have hcz31_0 : w29.cell? ⟨gb719, 0, none⟩ = some (.bool a0_0) := (blk_cell BK719.out 0).trans rfl; have hcz31_1 : w29.cell? ⟨gb719, 1, none⟩ = some (.slice A0_1 l0_1.length c0_1) := (blk_cell BK719.out 1).trans rfl; have hcz31_2 : w29.cell? ⟨gb719, 2, none⟩ = some (.int .i64 a0_2) := (blk_cell BK719.out 2).trans rfl; have hfz31_0 := blk_frozen BK719.out 0; have hfz31_1 := blk_frozen BK719.out 1; have hfz31_2 := blk_frozen BK719.out 2) | ((with_reducible refine gate_callee (f := 74) rfl ?_); refine goesM (some 30) Try.func74 #[.slice A1_1 l1_1.length c1_1, .int .i64 a1_2, .slice A0_1 l0_1.length c0_1, .int .i64 a0_2] ?_; (with_reducible refine (r03_Against.calls k _ _ l1_1 a1_2 _ _ l0_1 a0_2 t723 _ ?side1 ?side2 ?side3 ?side4 A22.out).mono ?_); (case side1 => repeat (first | exact (Kd.C_below HR1_1.out HB.out) | (with_reducible first | apply cA | apply cN | apply cD))); (case side2 => exact HC1_1.out); (case side3 => repeat (first | exact (Kd.C_below HR0_1.out HB.out) | (with_reducible first | apply cA | apply cN | apply cD))); (case side4 => exact HC0_1.out); rintro e w32 ⟨rfl, hb⟩; refine ⟨_, rfl, ?_⟩; have n0_ := kb_ BK719 hb; have n1_ := kb_ BK720 hb; have n2_ := bs_ HB hb; clear BK719; clear BK720; clear HB; have BK719 := n0_; have BK720 := n1_; have HB := n2_; clear n0_ n1_ n2_; (try clear hb); (try clear hb2); (try clear hk); (try clear hi)))
    go_ret
    exact ⟨by first | rfl | (simp [errW_none, errW_some] <;> rfl) | (simp [*, errW_none, errW_some] <;> rfl), bl_ HB⟩
   ·rw [if_neg c21] at H
    have c21b0 : decide (t721 < 0) = false := decide_eq_false c21
    clear c21
    obtain ⟨t724, A33, H⟩ := ob_ H
    try dsimp only at H
    obtain rfl := Option.some.inj H
    go_enter Try.func53, Try.ntmps53
    go_wp2_with (first | ((with_reducible refine gate_dst (N := 2) rfl ?_); refine box_event ?hg (N := 2) ?hd (cs := #[.bool a0_0, .slice A0_1 l0_1.length c0_1, .int .i64 a0_2]) (t := 43) ?hr ?_; (case hd => rfl); (case hg => rfl); (case hr => first | (go_simp; done) | (go_simp; rfl)); intro gb719 hg w34 hbox hb; have n0_ := bs_ HB hb; have n1_ := Aside0.mk (hbox); have n2_ := ge_ HB hg; have n3_ := ge_ HB hg; clear HB; have HB := n0_; have BK719 := n1_; have GW719 := n2_; have GE719 := n3_; clear n0_ n1_ n2_ n3_; clear hb hbox hg) | ((with_reducible refine gate_dst (N := 3) rfl ?_); refine box_event ?hg (N := 3) ?hd (cs := #[.bool a1_0, .slice A1_1 l1_1.length c1_1, .int .i64 a1_2]) (t := 43) ?hr ?_; (case hd => rfl); (case hg => rfl); (case hr => first | (go_simp; done) | (go_simp; rfl)); intro gb720 hg w35 hbox hb; have n0_ := kb_ BK719 hb; have n1_ := bs_ HB hb; have n2_ := Aside0.mk (hbox); have n3_ := ge_ HB hg; have n4_ := ge_ HB hg; have n5_ := nlt_ BK719 hg; have n6_ := ngt_ BK719 hg; clear BK719; clear HB; have BK719 := n0_; have HB := n1_; have BK720 := n2_; have GW720 := n3_; have GE720 := n4_; have NB719_720 := n5_; have NB720_719 := n6_; clear n0_ n1_ n2_ n3_ n4_ n5_ n6_; clear hb hbox hg; have hnb36 := NB719_720.out; have hnc36 := NB720_719.out; have hcz37_0 : w35.cell? ⟨gb719, 0, none⟩ = some (.bool a0_0) := (blk_cell BK719.out 0).trans rfl; have hcz37_1 : w35.cell? ⟨gb719, 1, none⟩ = some (.slice A0_1 l0_1.length c0_1) := (blk_cell BK719.out 1).trans rfl; have hcz37_2 : w35.cell? ⟨gb719, 2, none⟩ = some (.int .i64 a0_2) := (blk_cell BK719.out 2).trans rfl; have hfz37_0 := blk_frozen BK719.out 0; have hfz37_1 := blk_frozen BK719.out 1; have hfz37_2 := blk_frozen BK719.out 2) | ((with_reducible refine gate_callee (f := 73) rfl ?_); refine goesM (some 8) Try.func73 #[.agg #[.bool a0_0, .slice A0_1 l0_1.length c0_1, .int .i64 a0_2]] ?_; (with_reducible refine (r03_Sign.calls k a0_0 _ _ l0_1 a0_2 t721 _ ?side1 ?side2 A3.out).mono ?_); (case side1 => repeat (first | exact (Kd.C_below HR0_1.out HB.out) | (with_reducible first | apply cA | apply cN | apply cD))); (case side2 => exact HC0_1.out); rintro e w38 ⟨rfl, hb⟩; refine ⟨_, rfl, ?_⟩; have n0_ := kb_ BK719 hb; have n1_ := kb_ BK720 hb; have n2_ := bs_ HB hb; clear BK719; clear BK720; clear HB; have BK719 := n0_; have BK720 := n1_; have HB := n2_; clear n0_ n1_ n2_; (try clear hb); (try clear hb2); (try clear hk); (try clear hi); have hcz39_0 : w38.cell? ⟨gb720, 0, none⟩ = some (.bool a1_0) := (blk_cell BK720.out 0).trans rfl; have hcz39_1 : w38.cell? ⟨gb720, 1, none⟩ = some (.slice A1_1 l1_1.length c1_1) := (blk_cell BK720.out 1).trans rfl; have hcz39_2 : w38.cell? ⟨gb720, 2, none⟩ = some (.int .i64 a1_2) := (blk_cell BK720.out 2).trans rfl; have hfz39_0 := blk_frozen BK720.out 0; have hfz39_1 := blk_frozen BK720.out 1; have hfz39_2 := blk_frozen BK720.out 2) | ((with_reducible refine gate_callee (f := 73) rfl ?_); refine goesM (some 10) Try.func73 #[.agg #[.bool a1_0, .slice A1_1 l1_1.length c1_1, .int .i64 a1_2]] ?_; (with_reducible refine (r03_Sign.calls k a1_0 _ _ l1_1 a1_2 t722 _ ?side1 ?side2 A4.out).mono ?_); (case side1 => repeat (first | exact (Kd.C_below HR1_1.out HB.out) | (with_reducible first | apply cA | apply cN | apply cD))); (case side2 => exact HC1_1.out); rintro e w40 ⟨rfl, hb⟩; refine ⟨_, rfl, ?_⟩; have n0_ := kb_ BK719 hb; have n1_ := kb_ BK720 hb; have n2_ := bs_ HB hb; clear BK719; clear BK720; clear HB; have BK719 := n0_; have BK720 := n1_; have HB := n2_; clear n0_ n1_ n2_; (try clear hb); (try clear hb2); (try clear hk); (try clear hi); have hcz41_0 : w40.cell? ⟨gb719, 0, none⟩ = some (.bool a0_0) := (blk_cell BK719.out 0).trans rfl; have hcz41_1 : w40.cell? ⟨gb719, 1, none⟩ = some (.slice A0_1 l0_1.length c0_1) := (blk_cell BK719.out 1).trans rfl; have hcz41_2 : w40.cell? ⟨gb719, 2, none⟩ = some (.int .i64 a0_2) := (blk_cell BK719.out 2).trans rfl; have hfz41_0 := blk_frozen BK719.out 0; have hfz41_1 := blk_frozen BK719.out 1; have hfz41_2 := blk_frozen BK719.out 2; have hcz42_0 : w40.cell? ⟨gb720, 0, none⟩ = some (.bool a1_0) := (blk_cell BK720.out 0).trans rfl; have hcz42_1 : w40.cell? ⟨gb720, 1, none⟩ = some (.slice A1_1 l1_1.length c1_1) := (blk_cell BK720.out 1).trans rfl; have hcz42_2 : w40.cell? ⟨gb720, 2, none⟩ = some (.int .i64 a1_2) := (blk_cell BK720.out 2).trans rfl; have hfz42_0 := blk_frozen BK720.out 0; have hfz42_1 := blk_frozen BK720.out 1; have hfz42_2 := blk_frozen BK720.out 2) | ((with_reducible refine gate_callee (f := 74) rfl ?_); refine goesM (some 39) Try.func74 #[.slice A0_1 l0_1.length c0_1, .int .i64 a0_2, .slice A1_1 l1_1.length c1_1, .int .i64 a1_2] ?_; (with_reducible refine (r03_Against.calls k _ _ l0_1 a0_2 _ _ l1_1 a1_2 t724 _ ?side1 ?side2 ?side3 ?side4 A33.out).mono ?_); (case side1 => repeat (first | exact (Kd.C_below HR0_1.out HB.out) | (with_reducible first | apply cA | apply cN | apply cD))); (case side2 => exact HC0_1.out); (case side3 => repeat (first | exact (Kd.C_below HR1_1.out HB.out) | (with_reducible first | apply cA | apply cN | apply cD))); (case side4 => exact HC1_1.out); rintro e w43 ⟨rfl, hb⟩; refine ⟨_, rfl, ?_⟩; have n0_ := kb_ BK719 hb; have n1_ := kb_ BK720 hb; have n2_ := bs_ HB hb; clear BK719; clear BK720; clear HB; have BK719 := n0_; have BK720 := n1_; have HB := n2_; clear n0_ n1_ n2_; (try clear hb); (try clear hb2); (try clear hk); (try clear hi)))
    go_ret
    exact ⟨by first | rfl | (simp [errW_none, errW_some] <;> rfl) | (simp [*, errW_none, errW_some] <;> rfl), bl_ HB⟩

/-! ### l05_size: function 54 -/
def l05_size.f (a0_0 : Bool) (l0_1 : List Int) (a0_2 : Int) : Option (Bool × List Int × Int) := some (false, l0_1, a0_2)
set_option maxHeartbeats 3000000 in
set_option maxRecDepth 100000 in
theorem l05_size.calls (a0_0 : Bool) (P0_1_ : Nat → Prop) (A0_1 : Option Addr) (c0_1 : Nat) (l0_1 : List Int) (a0_2 : Int) (r1 : Bool) (r2 : List Int) (r3 : Int) (w : World) (hs0_1 : Kd.V (Kd.int .u32) 72 w w.heap.size (fun k_ => P0_1_ k_) (.slice A0_1 l0_1.length c0_1) l0_1) (h : l05_size.f a0_0 l0_1 a0_2 = some (r1, r2, r3)) :
  Calls Try.prog 54 #[.agg #[.bool a0_0, .slice A0_1 l0_1.length c0_1, .int .i64 a0_2]] w fun e w' => ∃ v1_ : Value, e = .returned (.agg #[.bool r1, v1_, .int .i64 r3]) ∧ Kd.V (Kd.int .u32) 72 w' w.heap.size (fun k_ => (P0_1_ k_ ∨ w.heap.size ≤ k_)) v1_ r2 ∧ Below w.heap.size w w' := by
 have hu43 := Try.underlying43
 have HO0_1 := Aside0.mk (show Kd.V (Kd.int .u32) 72 w w.heap.size (fun k_ => (P0_1_ k_ ∨ w.heap.size ≤ k_)) (.slice A0_1 l0_1.length c0_1) l0_1 from Kd.V_mono hs0_1 (fun k_ hk => .inl hk))
 have HB := Aside0.mk (Below.refl w.heap.size w)
 have H : (some (false, l0_1, a0_2)) = some (r1, r2, r3) := h
 clear h
 simp only [Option.some.injEq, Prod.mk.injEq] at H
 obtain ⟨rfl, rfl, rfl⟩ := H
 go_enter Try.func54, Try.ntmps54
 go_wp2_with (first | ((with_reducible refine gate_dst (N := 1) rfl ?_); refine box_event ?hg (N := 1) ?hd (cs := #[.bool a0_0, .slice A0_1 l0_1.length c0_1, .int .i64 a0_2]) (t := 43) ?hr ?_; (case hd => rfl); (case hg => rfl); (case hr => first | (go_simp; done) | (go_simp; rfl)); intro gb725 hg w2 hbox hb; have n0_ := Aside0.mk (Kd.V_below (Kd.V_elderB (by (with_reducible repeat (first | apply Kd.V_alloc | apply Kd.V_drewN | apply Kd.V_drew)); exact HO0_1.out) gb725 (Nat.le_of_eq hg.symm)) hb); have n1_ := bs_ HB hb; have n2_ := Aside0.mk (hbox); have n3_ := ge_ HB hg; have n4_ := ge_ HB hg; clear HO0_1; clear HB; have HO0_1 := n0_; have HB := n1_; have BK725 := n2_; have GW725 := n3_; have GE725 := n4_; clear n0_ n1_ n2_ n3_ n4_; clear hb hbox hg) | ((with_reducible refine gate_dst (N := 2) rfl ?_); refine box_event ?hg (N := 2) ?hd (cs := #[.bool false, .slice none 0 0, .int .i64 0]) (t := 43) ?hr ?_; (case hd => rfl); (case hg => rfl); (case hr => first | (go_simp; done) | (go_simp; rfl)); intro gb726 hg w3 hbox hb; have n0_ := Aside0.mk (Kd.V_below (Kd.V_elderB (by (with_reducible repeat (first | apply Kd.V_alloc | apply Kd.V_drewN | apply Kd.V_drew)); exact HO0_1.out) gb726 (Nat.le_of_eq hg.symm)) hb); have n1_ := kb_ BK725 hb; have n2_ := bs_ HB hb; have n3_ := Aside0.mk (hbox); have n4_ := ge_ HB hg; have n5_ := ge_ HB hg; have n6_ := nlt_ BK725 hg; have n7_ := ngt_ BK725 hg; clear HO0_1; clear BK725; clear HB; have HO0_1 := n0_; have BK725 := n1_; have HB := n2_; have BK726 := n3_; have GW726 := n4_; have GE726 := n5_; have NB725_726 := n6_; have NB726_725 := n7_; clear n0_ n1_ n2_ n3_ n4_ n5_ n6_ n7_; clear hb hbox hg; have hnb4 := NB725_726.out; have hnc4 := NB726_725.out; have hcz5_0 : w3.cell? ⟨gb725, 0, none⟩ = some (.bool a0_0) := (blk_cell BK725.out 0).trans rfl; have hcz5_1 : w3.cell? ⟨gb725, 1, none⟩ = some (.slice A0_1 l0_1.length c0_1) := (blk_cell BK725.out 1).trans rfl; have hcz5_2 : w3.cell? ⟨gb725, 2, none⟩ = some (.int .i64 a0_2) := (blk_cell BK725.out 2).trans rfl; have hfz5_0 := blk_frozen BK725.out 0; have hfz5_1 := blk_frozen BK725.out 1; have hfz5_2 := blk_frozen BK725.out 2; have hcz6_0 : w3.cell? ⟨gb726, 0, none⟩ = some (.bool false) := (blk_cell BK726.out 0).trans rfl; have hcz6_1 : w3.cell? ⟨gb726, 1, none⟩ = some (.slice none 0 0) := (blk_cell BK726.out 1).trans rfl; have hcz6_2 : w3.cell? ⟨gb726, 2, none⟩ = some (.int .i64 0) := (blk_cell BK726.out 2).trans rfl; have hfz6_0 := blk_frozen BK726.out 0; have hfz6_1 := blk_frozen BK726.out 1; have hfz6_2 := blk_frozen BK726.out 2))
 refine bodyPost_ret (results_cell_row rfl _ _ gb726 43 #[.bool false, .slice A0_1 l0_1.length c0_1, .int .i64 a0_2] (0, 0) _ rfl (by (with_reducible repeat (first | apply bN | apply bD | apply bA)); refine blk_put (cs := #[.bool false, .slice A0_1 l0_1.length c0_1, .int .i64 0]) ?_ 2 _ rfl; (with_reducible repeat (first | apply bN | apply bD | apply bA)); refine blk_put (cs := #[.bool false, .slice none 0 0, .int .i64 0]) ?_ 1 _ rfl; (with_reducible repeat (first | apply bN | apply bD | apply bA)); refine blk_put (cs := #[.bool false, .slice none 0 0, .int .i64 0]) ?_ 0 _ rfl; exact bk_ BK726) Try.underlying43 rfl (by kernel_rfl)) rfl ?_
 exact ⟨_, by first | rfl | (simp [errW_none, errW_some] <;> rfl) | (simp [*, errW_none, errW_some] <;> rfl), by (with_reducible repeat (first | apply Kd.V_alloc | apply Kd.V_drewN | apply Kd.V_drew)); exact Kd.V_mono (Kd.V_far (p := ⟨gb726, 2, none⟩) (Kd.V_far (p := ⟨gb726, 1, none⟩) (Kd.V_far (p := ⟨gb726, 0, none⟩) (Kd.V_mono HO0_1.out (fun k_ hk => (⟨hk, hk.2⟩ : _ ∧ k_ ≠ gb726))) (fun _ hk => hk.2) (.bool false)) (fun _ hk => hk.2) (.slice A0_1 l0_1.length c0_1)) (fun _ hk => hk.2) (.int .i64 a0_2)) (fun _ hk => hk.1.1.1), bl_ HB⟩

/-! ### l05_within: function 51 -/
def l05_within.f (k : Nat) (a0_0 : Bool) (l0_1 : List Int) (a0_2 : Int) (a1 : Int) : Option (Bool) := (l05_size.f a0_0 l0_1 a0_2).bind fun bt728 => ((r03_Cmp.f k bt728.1 bt728.2.1 bt728.2.2 false (([1] : List Int)) a1).bind fun t736 => (some (decide (t736 ≤ 0))))
theorem l05_within.mono : ∀ a0 a1 a2 a3 k, LeO (l05_within.f k a0 a1 a2 a3) (l05_within.f (k + 1) a0 a1 a2 a3) := by
 intro a0 a1 a2 a3 k
 unfold l05_within.f
 repeat' first
   | (with_reducible exact r03_Cmp.mono _ _ _ _ _ _ _)
   | (with_reducible exact LeO.refl _)
   | (with_reducible exact LeO.none _)
   | (with_reducible refine LeO.ite ?_ ?_)
   | (with_reducible refine LeO.bind ?_ (fun _ => ?_))
   | exact r03_Cmp.mono _ _ _ _ _ _ _
   | exact LeO.none _
   | refine LeO.ite ?_ ?_
   | refine LeO.bind ?_ (fun _ => ?_)
set_option maxHeartbeats 3000000 in
set_option maxRecDepth 100000 in
theorem l05_within.calls (k : Nat) (a0_0 : Bool) (A0_1 : Option Addr) (c0_1 : Nat) (l0_1 : List Int) (a0_2 : Int) (a1 : Int) (r : Bool) (w : World) (hr0_1 : Kd.C (Kd.int .u32) w A0_1 l0_1.length l0_1) (hc0_1 : l0_1.length ≤ c0_1) (h : l05_within.f k a0_0 l0_1 a0_2 a1 = some r) :
  Calls Try.prog 51 #[.agg #[.bool a0_0, .slice A0_1 l0_1.length c0_1, .int .i64 a0_2], .int .i64 a1] w fun e w' => e = .returned (.bool r) ∧ Below w.heap.size w w' := by
 have hu43 := Try.underlying43
 have HR0_1 := Aside0.mk hr0_1
 have HC0_1 := Aside0.mk hc0_1
 clear hr0_1 hc0_1
 have HB := Aside0.mk (Below.refl w.heap.size w)
 have H : ((l05_size.f a0_0 l0_1 a0_2).bind fun bt728 => ((r03_Cmp.f k bt728.1 bt728.2.1 bt728.2.2 false (([1] : List Int)) a1).bind fun t736 => (some (decide (t736 ≤ 0))))) = some r := h
 clear h
 obtain ⟨⟨t728, t729, t732⟩, A3, H⟩ := ob_ H
 try dsimp only at H
 obtain ⟨y733, hy733⟩ : ∃ y_ : List Int, y_ = (([1] : List Int)) := ⟨_, rfl⟩
 replace H : ((r03_Cmp.f k t728 t729 t732 false y733 a1).bind fun t736 => (some (decide (t736 ≤ 0)))) = some r := by first | (rw [hy733]; with_reducible exact H) | (have H2_ := (Option.bind_some _ _).symm.trans H; rw [hy733]; with_reducible exact H2_) | (have H2_ := (Option.bind_some _ _).symm.trans H; with_reducible exact H2_) | with_reducible exact H | (rw [hy733]; exact H) | exact H
 have Ny733 := Aside0.mk hy733
 clear hy733
 obtain ⟨t736, A4, H⟩ := ob_ H
 try dsimp only at H
 obtain rfl := Option.some.inj H
 go_enter Try.func51, Try.ntmps51
 go_wp2_with (first | ((with_reducible refine gate_dst (N := 2) rfl ?_); refine box_event ?hg (N := 2) ?hd (cs := #[.bool a0_0, .slice A0_1 l0_1.length c0_1, .int .i64 a0_2]) (t := 43) ?hr ?_; (case hd => rfl); (case hg => rfl); (case hr => first | (go_simp; done) | (go_simp; rfl)); intro gb727 hg w5 hbox hb; have n0_ := bs_ HB hb; have n1_ := Aside0.mk (hbox); have n2_ := ge_ HB hg; have n3_ := ge_ HB hg; clear HB; have HB := n0_; have BK727 := n1_; have GW727 := n2_; have GE727 := n3_; clear n0_ n1_ n2_ n3_; clear hb hbox hg; have hcz6_0 : w5.cell? ⟨gb727, 0, none⟩ = some (.bool a0_0) := (blk_cell BK727.out 0).trans rfl; have hcz6_1 : w5.cell? ⟨gb727, 1, none⟩ = some (.slice A0_1 l0_1.length c0_1) := (blk_cell BK727.out 1).trans rfl; have hcz6_2 : w5.cell? ⟨gb727, 2, none⟩ = some (.int .i64 a0_2) := (blk_cell BK727.out 2).trans rfl; have hfz6_0 := blk_frozen BK727.out 0; have hfz6_1 := blk_frozen BK727.out 1; have hfz6_2 := blk_frozen BK727.out 2) | ((with_reducible refine gate_callee (f := 54) rfl ?_); refine goesM (some 6) Try.func54 #[.agg #[.bool a0_0, .slice A0_1 l0_1.length c0_1, .int .i64 a0_2]] ?_; (with_reducible refine (l05_size.calls a0_0 (fun k_ => k_ < w.heap.size) _ _ l0_1 a0_2 t728 t729 t732 _ ?side1 A3.out).mono ?_); (case side1 => exact Kd.V_mk HC0_1.out (Kd.F_below (Kd.C_F (Kd.heap_int .u32) HR0_1.out) (bl_ HB))); rintro e w7 ⟨v730, rfl, ho0, hb⟩; refine ⟨_, rfl, ?_⟩; have n0_ := Aside0.mk (Kd.V_lower (Kd.V_mono (ok' := fun k_ => k_ ≠ gb727) ho0 (fun k_ hk_ => Or.elim hk_ (fun hs_ => fun e_ => Nat.not_le.2 hs_ (by rw [e_]; exact GW727.out)) (fun hn_ => (Kd.freshB (g := gb727) (o := .cells #[.bool a0_0, .slice A0_1 l0_1.length c0_1, .int .i64 a0_2] 43 (0, 0)) (bk_ BK727) k_ hn_)))) (below_size (bl_ HB))); have n1_ := kb_ BK727 hb; have n2_ := bs_ HB hb; clear BK727; clear HB; have HO731 := n0_; have BK727 := n1_; have HB := n2_; clear n0_ n1_ n2_; (try clear hb); (try clear hb2); (try clear hk); (try clear hi); (try clear ho0)) | ((with_reducible refine gate_dst (N := 7) rfl ?_); refine Kd.R_lit (Kd.int .u32) _ 72 ?hg (N := 7) ?hd (xs := ([1] : List Int)) (inner := [.int .u32 1]) (ok := fun _ => True) (okp := fun _ => True) ?hr ?hp (fun _ hk => hk) trivial (Below.refl _ _) (Nat.le_refl _) (by simp) ?_; (case hd => rfl); (case hg => rfl); (case hr => first | (go_simp; done) | (go_simp; rfl)); (case hp => exact (Reps.one (show Kd.M (Kd.int .u32) _ _ _ 1 [.int .u32 1] from rfl) (Reps.none _ _))); intro v734 w8 ho9 hb hg_ hnew_; clear hg_ hnew_; (first | rw [← Ny733.out] at ho9 | (simp only [Int.reduceToNat] at ho9; rw [← Ny733.out] at ho9)); have n0_ := Aside0.mk (Kd.V_elder' (by (with_reducible repeat (first | apply Kd.V_alloc | apply Kd.V_drewN | apply Kd.V_drew)); exact HO731.out) (Kd.R_base ho9) hb); have n1_ := Aside0.mk (Kd.R_lower ho9 (below_size (bl_ HB))); have n2_ := kb_ BK727 hb; have n3_ := bs_ HB hb; clear HO731; clear BK727; clear HB; have HO731 := n0_; have HO735 := n1_; have BK727 := n2_; have HB := n3_; clear n0_ n1_ n2_ n3_; clear hb ho9; obtain ⟨Ao10, co10, eo10⟩ := Kd.R_slice HO735.out; subst eo10; obtain ⟨Ao11, co11, eo11⟩ := Kd.V_slice HO731.out; subst eo11) | ((with_reducible refine gate_callee (f := 53) rfl ?_); refine goesM (some 10) Try.func53 #[.agg #[.bool t728, .slice Ao11 t729.length co11, .int .i64 t732], .agg #[.bool false, .slice Ao10 y733.length co10, .int .i64 a1]] ?_; (with_reducible refine (r03_Cmp.calls k t728 _ _ t729 t732 false _ _ y733 a1 t736 _ ?side1 ?side2 ?side3 ?side4 A4.out).mono ?_); (case side1 => repeat (first | exact (Kd.V_reads' HO731.out).2.2 | (with_reducible first | apply cA | apply cN | apply cD))); (case side2 => exact (Kd.V_reads' HO731.out).2.1); (case side3 => repeat (first | exact (Kd.R_reads' HO735.out).2.2 | (with_reducible first | apply cA | apply cN | apply cD))); (case side4 => exact (Kd.R_reads' HO735.out).2.1); rintro e w12 ⟨rfl, hb⟩; refine ⟨_, rfl, ?_⟩; have n0_ := Aside0.mk (Kd.V_below (by (with_reducible repeat (first | apply Kd.V_alloc | apply Kd.V_drewN | apply Kd.V_drew)); exact HO731.out) hb); have n1_ := Aside0.mk (Kd.R_below (rr_ HO735) hb); have n2_ := kb_ BK727 hb; have n3_ := bs_ HB hb; clear HO731; clear HO735; clear BK727; clear HB; have HO731 := n0_; have HO735 := n1_; have BK727 := n2_; have HB := n3_; clear n0_ n1_ n2_ n3_; (try clear hb); (try clear hb2); (try clear hk); (try clear hi)))
 go_ret
 exact ⟨by first | rfl | (simp [errW_none, errW_some] <;> rfl) | (simp [*, errW_none, errW_some] <;> rfl), bl_ HB⟩

/-! ### l05_worth: function 34 -/
def l05_worth.f (k : Nat) (a0_0 : Nat) (a0_1 : Nat) : Option (Bool × List Int × Int × Bool) := (l05_finite.f k a0_0).bind fun bt739 => ((l05_finite.f k a0_1).bind fun bt746 => (if bt739.2.2.2 = true then (if bt746.2.2.2 = true then ((r03_Add.f k bt739.1 bt739.2.1 bt739.2.2.1 bt746.1 bt746.2.1 bt746.2.2.1).bind fun bt753 => (some (bt753.1, bt753.2.1, bt753.2.2.1, (bt753.2.2.2 == 0)))) else (some (false, ([] : List Int), 0, false))) else (some (false, ([] : List Int), 0, false))))
theorem l05_worth.mono : ∀ a0 a1 k, LeO (l05_worth.f k a0 a1) (l05_worth.f (k + 1) a0 a1) := by
 intro a0 a1 k
 unfold l05_worth.f
 repeat' first
   | (with_reducible exact l05_finite.mono _ _)
   | (with_reducible exact r03_Add.mono _ _ _ _ _ _ _)
   | (with_reducible exact LeO.refl _)
   | (with_reducible exact LeO.none _)
   | (with_reducible refine LeO.ite ?_ ?_)
   | (with_reducible refine LeO.bind ?_ (fun _ => ?_))
   | exact l05_finite.mono _ _
   | exact r03_Add.mono _ _ _ _ _ _ _
   | exact LeO.none _
   | refine LeO.ite ?_ ?_
   | refine LeO.bind ?_ (fun _ => ?_)
set_option maxHeartbeats 3000000 in
set_option maxRecDepth 100000 in
theorem l05_worth.calls (k : Nat) (a0_0 : Nat) (a0_1 : Nat) (r1 : Bool) (r2 : List Int) (r3 : Int) (r4 : Bool) (w : World) (h : l05_worth.f k a0_0 a0_1 = some (r1, r2, r3, r4)) :
  Calls Try.prog 34 #[.agg #[.float .f64 a0_0, .float .f64 a0_1]] w fun e w' => ∃ v1_ : Value, e = .returned (.tuple #[.agg #[.bool r1, v1_, .int .i64 r3], .bool r4]) ∧ Kd.R (Kd.int .u32) 72 w' w.heap.size (fun _ => True) v1_ r2 ∧ Below w.heap.size w w' := by
 have hu30 := Try.underlying30
 have hu43 := Try.underlying43
 have HB := Aside0.mk (Below.refl w.heap.size w)
 have H : ((l05_finite.f k a0_0).bind fun bt739 => ((l05_finite.f k a0_1).bind fun bt746 => (if bt739.2.2.2 = true then (if bt746.2.2.2 = true then ((r03_Add.f k bt739.1 bt739.2.1 bt739.2.2.1 bt746.1 bt746.2.1 bt746.2.2.1).bind fun bt753 => (some (bt753.1, bt753.2.1, bt753.2.2.1, (bt753.2.2.2 == 0)))) else (some (false, ([] : List Int), 0, false))) else (some (false, ([] : List Int), 0, false))))) = some (r1, r2, r3, r4) := h
 clear h
 obtain ⟨⟨t739, t740, t743, t744⟩, A2, H⟩ := ob_ H
 try dsimp only at H
 obtain ⟨⟨t746, t747, t750, t751⟩, A3, H⟩ := ob_ H
 try dsimp only at H
 by_cases c4 : t744 = true
 ·subst c4
  have H1 : (if t751 = true then ((r03_Add.f k t739 t740 t743 t746 t747 t750).bind fun bt753 => (some (bt753.1, bt753.2.1, bt753.2.2.1, (bt753.2.2.2 == 0)))) else (some (false, ([] : List Int), 0, false))) = some (r1, r2, r3, r4) := by rw [if_pos rfl] at H; exact H
  clear H
  have H := H1
  clear H1
  by_cases c5 : t751 = true
  ·subst c5
   have H1 : ((r03_Add.f k t739 t740 t743 t746 t747 t750).bind fun bt753 => (some (bt753.1, bt753.2.1, bt753.2.2.1, (bt753.2.2.2 == 0)))) = some (r1, r2, r3, r4) := by rw [if_pos rfl] at H; exact H
   clear H
   have H := H1
   clear H1
   obtain ⟨⟨t753, t754, t757, t758⟩, A6, H⟩ := ob_ H
   try dsimp only at H
   simp only [Option.some.injEq, Prod.mk.injEq] at H
   obtain ⟨rfl, rfl, rfl, rfl⟩ := H
   go_enter Try.func34, Try.ntmps34
   go_wp2_with (first | ((with_reducible refine gate_dst (N := 1) rfl ?_); refine box_event ?hg (N := 1) ?hd (cs := #[.float .f64 a0_0, .float .f64 a0_1]) (t := 30) ?hr ?_; (case hd => rfl); (case hg => rfl); (case hr => first | (go_simp; done) | (go_simp; rfl)); intro gb737 hg w7 hbox hb; have n0_ := bs_ HB hb; have n1_ := Aside0.mk (hbox); have n2_ := ge_ HB hg; have n3_ := ge_ HB hg; clear HB; have HB := n0_; have BK737 := n1_; have GW737 := n2_; have GE737 := n3_; clear n0_ n1_ n2_ n3_; clear hb hbox hg) | ((with_reducible refine gate_dst (N := 2) rfl ?_); refine box_event ?hg (N := 2) ?hd (cs := #[.bool false, .slice none 0 0, .int .i64 0]) (t := 43) ?hr ?_; (case hd => rfl); (case hg => rfl); (case hr => first | (go_simp; done) | (go_simp; rfl)); intro gb738 hg w8 hbox hb; have n0_ := kb_ BK737 hb; have n1_ := bs_ HB hb; have n2_ := Aside0.mk (hbox); have n3_ := ge_ HB hg; have n4_ := ge_ HB hg; have n5_ := nlt_ BK737 hg; have n6_ := ngt_ BK737 hg; clear BK737; clear HB; have BK737 := n0_; have HB := n1_; have BK738 := n2_; have GW738 := n3_; have GE738 := n4_; have NB737_738 := n5_; have NB738_737 := n6_; clear n0_ n1_ n2_ n3_ n4_ n5_ n6_; clear hb hbox hg; have hnb9 := NB737_738.out; have hnc9 := NB738_737.out; have hcz10_0 : w8.cell? ⟨gb737, 0, none⟩ = some (.float .f64 a0_0) := (blk_cell BK737.out 0).trans rfl; have hcz10_1 : w8.cell? ⟨gb737, 1, none⟩ = some (.float .f64 a0_1) := (blk_cell BK737.out 1).trans rfl; have hfz10_0 := blk_frozen BK737.out 0; have hfz10_1 := blk_frozen BK737.out 1) | ((with_reducible refine gate_callee (f := 29) rfl ?_); refine goesM (some 13) Try.func29 #[.float .f64 a0_0] ?_; (with_reducible refine (l05_finite.calls k a0_0 t739 t740 t743 true _ A2.out).mono ?_); rintro e w11 ⟨v741, rfl, ho0, hb⟩; refine ⟨_, rfl, ?_⟩; have n0_ := Aside0.mk (Kd.R_lower ho0 (below_size (bl_ HB))); have n1_ := kb_ BK737 hb; have n2_ := kb_ BK738 hb; have n3_ := bs_ HB hb; clear BK737; clear BK738; clear HB; have HO742 := n0_; have BK737 := n1_; have BK738 := n2_; have HB := n3_; clear n0_ n1_ n2_ n3_; (try clear hb); (try clear hb2); (try clear hk); (try clear hi); (try clear ho0)) | ((with_reducible refine gate_dst (N := 4) rfl ?_); refine box_event ?hg (N := 4) ?hd (cs := #[.bool false, .slice none 0 0, .int .i64 0]) (t := 43) ?hr ?_; (case hd => rfl); (case hg => rfl); (case hr => first | (go_simp; done) | (go_simp; rfl)); intro gb745 hg w12 hbox hb; have n0_ := Aside0.mk (Kd.R_below (rr_ HO742) hb); have n1_ := kb_ BK737 hb; have n2_ := kb_ BK738 hb; have n3_ := bs_ HB hb; have n4_ := Aside0.mk (hbox); have n5_ := ge_ HB hg; have n6_ := ge_ HB hg; have n7_ := nlt_ BK737 hg; have n8_ := ngt_ BK737 hg; have n9_ := nlt_ BK738 hg; have n10_ := ngt_ BK738 hg; clear HO742; clear BK737; clear BK738; clear HB; have HO742 := n0_; have BK737 := n1_; have BK738 := n2_; have HB := n3_; have BK745 := n4_; have GW745 := n5_; have GE745 := n6_; have NB737_745 := n7_; have NB745_737 := n8_; have NB738_745 := n9_; have NB745_738 := n10_; clear n0_ n1_ n2_ n3_ n4_ n5_ n6_ n7_ n8_ n9_ n10_; clear hb hbox hg; have hnb13 := NB745_737.out; have hnc13 := NB737_745.out; have hnb14 := NB745_738.out; have hnc14 := NB738_745.out; have hcz15_0 : w12.cell? ⟨gb745, 0, none⟩ = some (.bool false) := (blk_cell BK745.out 0).trans rfl; have hcz15_1 : w12.cell? ⟨gb745, 1, none⟩ = some (.slice none 0 0) := (blk_cell BK745.out 1).trans rfl; have hcz15_2 : w12.cell? ⟨gb745, 2, none⟩ = some (.int .i64 0) := (blk_cell BK745.out 2).trans rfl; have hfz15_0 := blk_frozen BK745.out 0; have hfz15_1 := blk_frozen BK745.out 1; have hfz15_2 := blk_frozen BK745.out 2; obtain ⟨Ao16, co16, eo16⟩ := Kd.R_slice HO742.out; subst eo16; have hcz17_0 : w12.cell? ⟨gb737, 0, none⟩ = some (.float .f64 a0_0) := (blk_cell BK737.out 0).trans rfl; have hcz17_1 : w12.cell? ⟨gb737, 1, none⟩ = some (.float .f64 a0_1) := (blk_cell BK737.out 1).trans rfl; have hfz17_0 := blk_frozen BK737.out 0; have hfz17_1 := blk_frozen BK737.out 1) | ((with_reducible refine gate_callee (f := 29) rfl ?_); refine goesM (some 19) Try.func29 #[.float .f64 a0_1] ?_; (with_reducible refine (l05_finite.calls k a0_1 t746 t747 t750 true _ A3.out).mono ?_); rintro e w18 ⟨v748, rfl, ho0, hb⟩; refine ⟨_, rfl, ?_⟩; have n0_ := Aside0.mk (Kd.R_elder' (by (with_reducible repeat (first | apply rA | apply rN | apply rD)); exact (Kd.R_mono (Kd.R_far (p := ⟨gb745, 2, none⟩) (Kd.R_far (p := ⟨gb745, 1, none⟩) (Kd.R_far (p := ⟨gb745, 0, none⟩) (Kd.R_types HO742.out BK745.out (by decide)) (fun _ hk => hk.2) (.bool t739)) (fun _ hk => hk.2) (.slice Ao16 t740.length co16)) (fun _ hk => hk.2) (.int .i64 t743)) (fun _ h_ => h_.1))) (Kd.R_base ho0) hb); have n1_ := Aside0.mk (Kd.R_lower (Kd.R_new' ho0 (Kd.R_lt (by (with_reducible repeat (first | apply rA | apply rN | apply rD)); exact (Kd.R_mono (Kd.R_far (p := ⟨gb745, 2, none⟩) (Kd.R_far (p := ⟨gb745, 1, none⟩) (Kd.R_far (p := ⟨gb745, 0, none⟩) (Kd.R_types HO742.out BK745.out (by decide)) (fun _ hk => hk.2) (.bool t739)) (fun _ hk => hk.2) (.slice Ao16 t740.length co16)) (fun _ hk => hk.2) (.int .i64 t743)) (fun _ h_ => h_.1))))) (below_size (bl_ HB))); have n2_ := Aside0.mk (blk_below (g := gb737) (o := .cells #[.float .f64 a0_0, .float .f64 a0_1] 30 (0, 0)) (by (with_reducible repeat (first | apply bN | apply bD | apply bA)); refine blk_far ?_ NB737_745.out _; (with_reducible repeat (first | apply bN | apply bD | apply bA)); refine blk_far ?_ NB737_745.out _; (with_reducible repeat (first | apply bN | apply bD | apply bA)); refine blk_far ?_ NB737_745.out _; exact bk_ BK737) hb); have n3_ := Aside0.mk (blk_below (g := gb738) (o := .cells #[.bool false, .slice none 0 0, .int .i64 0] 43 (0, 0)) (by (with_reducible repeat (first | apply bN | apply bD | apply bA)); refine blk_far ?_ NB738_745.out _; (with_reducible repeat (first | apply bN | apply bD | apply bA)); refine blk_far ?_ NB738_745.out _; (with_reducible repeat (first | apply bN | apply bD | apply bA)); refine blk_far ?_ NB738_745.out _; exact bk_ BK738) hb); have n4_ := Aside0.mk (blk_below (g := gb745) (o := .cells #[.bool t739, .slice Ao16 t740.length co16, .int .i64 t743] 43 (0, 0)) (by (with_reducible repeat (first | apply bN | apply bD | apply bA)); refine blk_put (cs := #[.bool t739, .slice Ao16 t740.length co16, .int .i64 0]) ?_ 2 _ rfl; (with_reducible repeat (first | apply bN | apply bD | apply bA)); refine blk_put (cs := #[.bool t739, .slice none 0 0, .int .i64 0]) ?_ 1 _ rfl; (with_reducible repeat (first | apply bN | apply bD | apply bA)); refine blk_put (cs := #[.bool false, .slice none 0 0, .int .i64 0]) ?_ 0 _ rfl; exact bk_ BK745) hb); have n5_ := bs_ HB hb; clear HO742; clear BK737; clear BK738; clear BK745; clear HB; have HO742 := n0_; have HO749 := n1_; have BK737 := n2_; have BK738 := n3_; have BK745 := n4_; have HB := n5_; clear n0_ n1_ n2_ n3_ n4_ n5_; (try clear hb); (try clear hb2); (try clear hk); (try clear hi); (try clear ho0)) | ((with_reducible refine gate_dst (N := 6) rfl ?_); refine box_event ?hg (N := 6) ?hd (cs := #[.bool false, .slice none 0 0, .int .i64 0]) (t := 43) ?hr ?_; (case hd => rfl); (case hg => rfl); (case hr => first | (go_simp; done) | (go_simp; rfl)); intro gb752 hg w19 hbox hb; have n0_ := Aside0.mk (Kd.R_below (rr_ HO742) hb); have n1_ := Aside0.mk (Kd.R_below (rr_ HO749) hb); have n2_ := kb_ BK737 hb; have n3_ := kb_ BK738 hb; have n4_ := kb_ BK745 hb; have n5_ := bs_ HB hb; have n6_ := Aside0.mk (hbox); have n7_ := ge_ HB hg; have n8_ := ge_ HB hg; have n9_ := nlt_ BK737 hg; have n10_ := ngt_ BK737 hg; have n11_ := nlt_ BK738 hg; have n12_ := ngt_ BK738 hg; have n13_ := nlt_ BK745 hg; have n14_ := ngt_ BK745 hg; clear HO742; clear HO749; clear BK737; clear BK738; clear BK745; clear HB; have HO742 := n0_; have HO749 := n1_; have BK737 := n2_; have BK738 := n3_; have BK745 := n4_; have HB := n5_; have BK752 := n6_; have GW752 := n7_; have GE752 := n8_; have NB737_752 := n9_; have NB752_737 := n10_; have NB738_752 := n11_; have NB752_738 := n12_; have NB745_752 := n13_; have NB752_745 := n14_; clear n0_ n1_ n2_ n3_ n4_ n5_ n6_ n7_ n8_ n9_ n10_ n11_ n12_ n13_ n14_; clear hb hbox hg; have hnb20 := NB752_737.out; have hnc20 := NB737_752.out; have hnb21 := NB752_738.out; have hnc21 := NB738_752.out; have hnb22 := NB752_745.out; have hnc22 := NB745_752.out; have hcz23_0 : w19.cell? ⟨gb752, 0, none⟩ = some (.bool false) := (blk_cell BK752.out 0).trans rfl; have hcz23_1 : w19.cell? ⟨gb752, 1, none⟩ = some (.slice none 0 0) := (blk_cell BK752.out 1).trans rfl; have hcz23_2 : w19.cell? ⟨gb752, 2, none⟩ = some (.int .i64 0) := (blk_cell BK752.out 2).trans rfl; have hfz23_0 := blk_frozen BK752.out 0; have hfz23_1 := blk_frozen BK752.out 1; have hfz23_2 := blk_frozen BK752.out 2; obtain ⟨Ao24, co24, eo24⟩ := Kd.R_slice HO749.out; subst eo24; have hcz25_0 : w19.cell? ⟨gb745, 0, none⟩ = some (.bool t739) := (blk_cell BK745.out 0).trans rfl; have hcz25_1 : w19.cell? ⟨gb745, 1, none⟩ = some (.slice Ao16 t740.length co16) := (blk_cell BK745.out 1).trans rfl; have hcz25_2 : w19.cell? ⟨gb745, 2, none⟩ = some (.int .i64 t743) := (blk_cell BK745.out 2).trans rfl; have hfz25_0 := blk_frozen BK745.out 0; have hfz25_1 := blk_frozen BK745.out 1; have hfz25_2 := blk_frozen BK745.out 2) | ((with_reducible refine gate_callee (f := 35) rfl ?_); refine goesM (some 32) Try.func35 #[.agg #[.bool t739, .slice Ao16 t740.length co16, .int .i64 t743], .agg #[.bool t746, .slice Ao24 t747.length co24, .int .i64 t750]] ?_; (with_reducible refine (r03_Add.calls k t739 _ _ t740 t743 t746 _ _ t747 t750 t753 t754 t757 t758 _ ?side1 ?side2 ?side3 ?side4 A6.out).mono ?_); (case side1 => refine (Kd.R_reads' (e := 72) (base := w.heap.size) (ok := fun k_ => (True ∧ some k_ ≠ (.slice Ao24 t747.length co24 : Value).ownBlock)) (n := t740.length) (c := co16) ?_).2.2; exact (by (with_reducible repeat (first | apply rA | apply rN | apply rD)); exact (Kd.R_mono (Kd.R_far (p := ⟨gb752, 2, none⟩) (Kd.R_far (p := ⟨gb752, 1, none⟩) (Kd.R_far (p := ⟨gb752, 0, none⟩) (Kd.R_types HO742.out BK752.out (by decide)) (fun _ hk => hk.2) (.bool t746)) (fun _ hk => hk.2) (.slice Ao24 t747.length co24)) (fun _ hk => hk.2) (.int .i64 t750)) (fun _ h_ => h_.1)))); (case side2 => exact (Kd.R_reads' HO742.out).2.1); (case side3 => refine (Kd.R_reads' (e := 72) (base := w.heap.size) (ok := fun k_ => (True ∧ some k_ ≠ (.slice Ao16 t740.length co16 : Value).ownBlock)) (n := t747.length) (c := co24) ?_).2.2; exact (by (with_reducible repeat (first | apply rA | apply rN | apply rD)); exact (Kd.R_mono (Kd.R_far (p := ⟨gb752, 2, none⟩) (Kd.R_far (p := ⟨gb752, 1, none⟩) (Kd.R_far (p := ⟨gb752, 0, none⟩) (Kd.R_types HO749.out BK752.out (by decide)) (fun _ hk => hk.2) (.bool t746)) (fun _ hk => hk.2) (.slice Ao24 t747.length co24)) (fun _ hk => hk.2) (.int .i64 t750)) (fun _ h_ => h_.1)))); (case side4 => exact (Kd.R_reads' HO749.out).2.1); rintro e w26 ⟨v755, rfl, ho0, hb⟩; refine ⟨_, rfl, ?_⟩; have n0_ := Aside0.mk (Kd.R_elder' (by (with_reducible repeat (first | apply rA | apply rN | apply rD)); exact (Kd.R_mono (Kd.R_far (p := ⟨gb752, 2, none⟩) (Kd.R_far (p := ⟨gb752, 1, none⟩) (Kd.R_far (p := ⟨gb752, 0, none⟩) (Kd.R_types HO742.out BK752.out (by decide)) (fun _ hk => hk.2) (.bool t746)) (fun _ hk => hk.2) (.slice Ao24 t747.length co24)) (fun _ hk => hk.2) (.int .i64 t750)) (fun _ h_ => h_.1))) (Kd.R_base ho0) hb); have n1_ := Aside0.mk (Kd.R_elder' (by (with_reducible repeat (first | apply rA | apply rN | apply rD)); exact (Kd.R_mono (Kd.R_far (p := ⟨gb752, 2, none⟩) (Kd.R_far (p := ⟨gb752, 1, none⟩) (Kd.R_far (p := ⟨gb752, 0, none⟩) (Kd.R_types HO749.out BK752.out (by decide)) (fun _ hk => hk.2) (.bool t746)) (fun _ hk => hk.2) (.slice Ao24 t747.length co24)) (fun _ hk => hk.2) (.int .i64 t750)) (fun _ h_ => h_.1))) (Kd.R_base ho0) hb); have n2_ := Aside0.mk (Kd.R_lower (Kd.R_new' (Kd.R_new' ho0 (Kd.R_lt (by (with_reducible repeat (first | apply rA | apply rN | apply rD)); exact (Kd.R_mono (Kd.R_far (p := ⟨gb752, 2, none⟩) (Kd.R_far (p := ⟨gb752, 1, none⟩) (Kd.R_far (p := ⟨gb752, 0, none⟩) (Kd.R_types HO742.out BK752.out (by decide)) (fun _ hk => hk.2) (.bool t746)) (fun _ hk => hk.2) (.slice Ao24 t747.length co24)) (fun _ hk => hk.2) (.int .i64 t750)) (fun _ h_ => h_.1))))) (Kd.R_lt (by (with_reducible repeat (first | apply rA | apply rN | apply rD)); exact (Kd.R_mono (Kd.R_far (p := ⟨gb752, 2, none⟩) (Kd.R_far (p := ⟨gb752, 1, none⟩) (Kd.R_far (p := ⟨gb752, 0, none⟩) (Kd.R_types HO749.out BK752.out (by decide)) (fun _ hk => hk.2) (.bool t746)) (fun _ hk => hk.2) (.slice Ao24 t747.length co24)) (fun _ hk => hk.2) (.int .i64 t750)) (fun _ h_ => h_.1))))) (below_size (bl_ HB))); have n3_ := Aside0.mk (blk_below (g := gb737) (o := .cells #[.float .f64 a0_0, .float .f64 a0_1] 30 (0, 0)) (by (with_reducible repeat (first | apply bN | apply bD | apply bA)); refine blk_far ?_ NB737_752.out _; (with_reducible repeat (first | apply bN | apply bD | apply bA)); refine blk_far ?_ NB737_752.out _; (with_reducible repeat (first | apply bN | apply bD | apply bA)); refine blk_far ?_ NB737_752.out _; exact bk_ BK737) hb); have n4_ := Aside0.mk (blk_below (g := gb738) (o := .cells #[.bool false, .slice none 0 0, .int .i64 0] 43 (0, 0)) (by (with_reducible repeat (first | apply bN | apply bD | apply bA)); refine blk_far ?_ NB738_752.out _; (with_reducible repeat (first | apply bN | apply bD | apply bA)); refine blk_far ?_ NB738_752.out _; (with_reducible repeat (first | apply bN | apply bD | apply bA)); refine blk_far ?_ NB738_752.out _; exact bk_ BK738) hb); have n5_ := Aside0.mk (blk_below (g := gb745) (o := .cells #[.bool t739, .slice Ao16 t740.length co16, .int .i64 t743] 43 (0, 0)) (by (with_reducible repeat (first | apply bN | apply bD | apply bA)); refine blk_far ?_ NB745_752.out _; (with_reducible repeat (first | apply bN | apply bD | apply bA)); refine blk_far ?_ NB745_752.out _; (with_reducible repeat (first | apply bN | apply bD | apply bA)); refine blk_far ?_ NB745_752.out _; exact bk_ BK745) hb); have n6_ := Aside0.mk (blk_below (g := gb752) (o := .cells #[.bool t746, .slice Ao24 t747.length co24, .int .i64 t750] 43 (0, 0)) (by (with_reducible repeat (first | apply bN | apply bD | apply bA)); refine blk_put (cs := #[.bool t746, .slice Ao24 t747.length co24, .int .i64 0]) ?_ 2 _ rfl; (with_reducible repeat (first | apply bN | apply bD | apply bA)); refine blk_put (cs := #[.bool t746, .slice none 0 0, .int .i64 0]) ?_ 1 _ rfl; (with_reducible repeat (first | apply bN | apply bD | apply bA)); refine blk_put (cs := #[.bool false, .slice none 0 0, .int .i64 0]) ?_ 0 _ rfl; exact bk_ BK752) hb); have n7_ := bs_ HB hb; clear HO742; clear HO749; clear BK737; clear BK738; clear BK745; clear BK752; clear HB; have HO742 := n0_; have HO749 := n1_; have HO756 := n2_; have BK737 := n3_; have BK738 := n4_; have BK745 := n5_; have BK752 := n6_; have HB := n7_; clear n0_ n1_ n2_ n3_ n4_ n5_ n6_ n7_; (try clear hb); (try clear hb2); (try clear hk); (try clear hi); (try clear ho0)) | ((with_reducible refine gate_dst (N := 8) rfl ?_); refine box_event ?hg (N := 8) ?hd (cs := #[.bool false, .slice none 0 0, .int .i64 0]) (t := 43) ?hr ?_; (case hd => rfl); (case hg => rfl); (case hr => first | (go_simp; done) | (go_simp; rfl)); intro gb759 hg w27 hbox hb; have n0_ := Aside0.mk (Kd.R_below (rr_ HO742) hb); have n1_ := Aside0.mk (Kd.R_below (rr_ HO749) hb); have n2_ := Aside0.mk (Kd.R_below (rr_ HO756) hb); have n3_ := kb_ BK737 hb; have n4_ := kb_ BK738 hb; have n5_ := kb_ BK745 hb; have n6_ := kb_ BK752 hb; have n7_ := bs_ HB hb; have n8_ := Aside0.mk (hbox); have n9_ := ge_ HB hg; have n10_ := ge_ HB hg; have n11_ := nlt_ BK737 hg; have n12_ := ngt_ BK737 hg; have n13_ := nlt_ BK738 hg; have n14_ := ngt_ BK738 hg; have n15_ := nlt_ BK745 hg; have n16_ := ngt_ BK745 hg; have n17_ := nlt_ BK752 hg; have n18_ := ngt_ BK752 hg; clear HO742; clear HO749; clear HO756; clear BK737; clear BK738; clear BK745; clear BK752; clear HB; have HO742 := n0_; have HO749 := n1_; have HO756 := n2_; have BK737 := n3_; have BK738 := n4_; have BK745 := n5_; have BK752 := n6_; have HB := n7_; have BK759 := n8_; have GW759 := n9_; have GE759 := n10_; have NB737_759 := n11_; have NB759_737 := n12_; have NB738_759 := n13_; have NB759_738 := n14_; have NB745_759 := n15_; have NB759_745 := n16_; have NB752_759 := n17_; have NB759_752 := n18_; clear n0_ n1_ n2_ n3_ n4_ n5_ n6_ n7_ n8_ n9_ n10_ n11_ n12_ n13_ n14_ n15_ n16_ n17_ n18_; clear hb hbox hg; have hnb28 := NB759_737.out; have hnc28 := NB737_759.out; have hnb29 := NB759_738.out; have hnc29 := NB738_759.out; have hnb30 := NB759_745.out; have hnc30 := NB745_759.out; have hnb31 := NB759_752.out; have hnc31 := NB752_759.out; have hcz32_0 : w27.cell? ⟨gb759, 0, none⟩ = some (.bool false) := (blk_cell BK759.out 0).trans rfl; have hcz32_1 : w27.cell? ⟨gb759, 1, none⟩ = some (.slice none 0 0) := (blk_cell BK759.out 1).trans rfl; have hcz32_2 : w27.cell? ⟨gb759, 2, none⟩ = some (.int .i64 0) := (blk_cell BK759.out 2).trans rfl; have hfz32_0 := blk_frozen BK759.out 0; have hfz32_1 := blk_frozen BK759.out 1; have hfz32_2 := blk_frozen BK759.out 2; obtain ⟨Ao33, co33, eo33⟩ := Kd.R_slice HO756.out; subst eo33; have hcz34_0 : w27.cell? ⟨gb738, 0, none⟩ = some (.bool false) := (blk_cell BK738.out 0).trans rfl; have hcz34_1 : w27.cell? ⟨gb738, 1, none⟩ = some (.slice none 0 0) := (blk_cell BK738.out 1).trans rfl; have hcz34_2 : w27.cell? ⟨gb738, 2, none⟩ = some (.int .i64 0) := (blk_cell BK738.out 2).trans rfl; have hfz34_0 := blk_frozen BK738.out 0; have hfz34_1 := blk_frozen BK738.out 1; have hfz34_2 := blk_frozen BK738.out 2))
   refine bodyPost_ret (results_ct rfl _ _ gb738 43 #[.bool t753, .slice Ao33 t754.length co33, .int .i64 t757] (0, 0) _ rfl (by (with_reducible repeat (first | apply bN | apply bD | apply bA)); refine blk_put (cs := #[.bool t753, .slice Ao33 t754.length co33, .int .i64 0]) ?_ 2 _ rfl; (with_reducible repeat (first | apply bN | apply bD | apply bA)); refine blk_put (cs := #[.bool t753, .slice none 0 0, .int .i64 0]) ?_ 1 _ rfl; (with_reducible repeat (first | apply bN | apply bD | apply bA)); refine blk_put (cs := #[.bool false, .slice none 0 0, .int .i64 0]) ?_ 0 _ rfl; (with_reducible repeat (first | apply bN | apply bD | apply bA)); refine blk_far ?_ NB738_759.out _; (with_reducible repeat (first | apply bN | apply bD | apply bA)); refine blk_far ?_ NB738_759.out _; (with_reducible repeat (first | apply bN | apply bD | apply bA)); refine blk_far ?_ NB738_759.out _; exact bk_ BK738) Try.underlying43 rfl (by kernel_rfl)) rfl ?_
   exact ⟨_, by first | rfl | (simp [errW_none, errW_some] <;> rfl) | (simp [*, errW_none, errW_some] <;> rfl), by (with_reducible repeat (first | apply rA | apply rN | apply rD)); exact Kd.R_mono (Kd.R_far (p := ⟨gb738, 2, none⟩) (Kd.R_far (p := ⟨gb738, 1, none⟩) (Kd.R_far (p := ⟨gb738, 0, none⟩) (Kd.R_far (p := ⟨gb759, 2, none⟩) (Kd.R_far (p := ⟨gb759, 1, none⟩) (Kd.R_far (p := ⟨gb759, 0, none⟩) (Kd.R_types (Kd.R_types HO756.out BK759.out (by decide)) BK738.out (by decide)) (fun _ hk => hk.1.2) (.bool t753)) (fun _ hk => hk.1.2) (.slice Ao33 t754.length co33)) (fun _ hk => hk.1.2) (.int .i64 t757)) (fun _ hk => hk.2) (.bool t753)) (fun _ hk => hk.2) (.slice Ao33 t754.length co33)) (fun _ hk => hk.2) (.int .i64 t757)) (fun _ hk => trivial), bl_ HB⟩
  ·replace c5 := Bool.eq_false_iff.mpr c5
   subst c5
   have H1 : (some (false, ([] : List Int), 0, false)) = some (r1, r2, r3, r4) := by rw [if_neg (show ¬ (false = true) by decide)] at H; exact H
   clear H
   have H := H1
   clear H1
   simp only [Option.some.injEq, Prod.mk.injEq] at H
   obtain ⟨rfl, rfl, rfl, rfl⟩ := H
   go_enter Try.func34, Try.ntmps34
   go_wp2_with (first | ((with_reducible refine gate_dst (N := 1) rfl ?_); refine box_event ?hg (N := 1) ?hd (cs := #[.float .f64 a0_0, .float .f64 a0_1]) (t := 30) ?hr ?_; (case hd => rfl); (case hg => rfl); (case hr => first | (go_simp; done) | (go_simp; rfl)); intro gb737 hg w35 hbox hb; have n0_ := bs_ HB hb; have n1_ := Aside0.mk (hbox); have n2_ := ge_ HB hg; have n3_ := ge_ HB hg; clear HB; have HB := n0_; have BK737 := n1_; have GW737 := n2_; have GE737 := n3_; clear n0_ n1_ n2_ n3_; clear hb hbox hg) | ((with_reducible refine gate_dst (N := 2) rfl ?_); refine box_event ?hg (N := 2) ?hd (cs := #[.bool false, .slice none 0 0, .int .i64 0]) (t := 43) ?hr ?_; (case hd => rfl); (case hg => rfl); (case hr => first | (go_simp; done) | (go_simp; rfl)); intro gb738 hg w36 hbox hb; have n0_ := kb_ BK737 hb; have n1_ := bs_ HB hb; have n2_ := Aside0.mk (hbox); have n3_ := ge_ HB hg; have n4_ := ge_ HB hg; have n5_ := nlt_ BK737 hg; have n6_ := ngt_ BK737 hg; clear BK737; clear HB; have BK737 := n0_; have HB := n1_; have BK738 := n2_; have GW738 := n3_; have GE738 := n4_; have NB737_738 := n5_; have NB738_737 := n6_; clear n0_ n1_ n2_ n3_ n4_ n5_ n6_; clear hb hbox hg; have hnb37 := NB737_738.out; have hnc37 := NB738_737.out; have hcz38_0 : w36.cell? ⟨gb737, 0, none⟩ = some (.float .f64 a0_0) := (blk_cell BK737.out 0).trans rfl; have hcz38_1 : w36.cell? ⟨gb737, 1, none⟩ = some (.float .f64 a0_1) := (blk_cell BK737.out 1).trans rfl; have hfz38_0 := blk_frozen BK737.out 0; have hfz38_1 := blk_frozen BK737.out 1) | ((with_reducible refine gate_callee (f := 29) rfl ?_); refine goesM (some 13) Try.func29 #[.float .f64 a0_0] ?_; (with_reducible refine (l05_finite.calls k a0_0 t739 t740 t743 true _ A2.out).mono ?_); rintro e w39 ⟨v741, rfl, ho0, hb⟩; refine ⟨_, rfl, ?_⟩; have n0_ := Aside0.mk (Kd.R_lower ho0 (below_size (bl_ HB))); have n1_ := kb_ BK737 hb; have n2_ := kb_ BK738 hb; have n3_ := bs_ HB hb; clear BK737; clear BK738; clear HB; have HO742 := n0_; have BK737 := n1_; have BK738 := n2_; have HB := n3_; clear n0_ n1_ n2_ n3_; (try clear hb); (try clear hb2); (try clear hk); (try clear hi); (try clear ho0)) | ((with_reducible refine gate_dst (N := 4) rfl ?_); refine box_event ?hg (N := 4) ?hd (cs := #[.bool false, .slice none 0 0, .int .i64 0]) (t := 43) ?hr ?_; (case hd => rfl); (case hg => rfl); (case hr => first | (go_simp; done) | (go_simp; rfl)); intro gb745 hg w40 hbox hb; have n0_ := Aside0.mk (Kd.R_below (rr_ HO742) hb); have n1_ := kb_ BK737 hb; have n2_ := kb_ BK738 hb; have n3_ := bs_ HB hb; have n4_ := Aside0.mk (hbox); have n5_ := ge_ HB hg; have n6_ := ge_ HB hg; have n7_ := nlt_ BK737 hg; have n8_ := ngt_ BK737 hg; have n9_ := nlt_ BK738 hg; have n10_ := ngt_ BK738 hg; clear HO742; clear BK737; clear BK738; clear HB; have HO742 := n0_; have BK737 := n1_; have BK738 := n2_; have HB := n3_; have BK745 := n4_; have GW745 := n5_; have GE745 := n6_; have NB737_745 := n7_; have NB745_737 := n8_; have NB738_745 := n9_; have NB745_738 := n10_; clear n0_ n1_ n2_ n3_ n4_ n5_ n6_ n7_ n8_ n9_ n10_; clear hb hbox hg; have hnb41 := NB745_737.out; have hnc41 := NB737_745.out; have hnb42 := NB745_738.out; have hnc42 := NB738_745.out; have hcz43_0 : w40.cell? ⟨gb745, 0, none⟩ = some (.bool false) := (blk_cell BK745.out 0).trans rfl; have hcz43_1 : w40.cell? ⟨gb745, 1, none⟩ = some (.slice none 0 0) := (blk_cell BK745.out 1).trans rfl; have hcz43_2 : w40.cell? ⟨gb745, 2, none⟩ = some (.int .i64 0) := (blk_cell BK745.out 2).trans rfl; have hfz43_0 := blk_frozen BK745.out 0; have hfz43_1 := blk_frozen BK745.out 1; have hfz43_2 := blk_frozen BK745.out 2; obtain ⟨Ao44, co44, eo44⟩ := Kd.R_slice HO742.out; subst eo44; have hcz45_0 : w40.cell? ⟨gb737, 0, none⟩ = some (.float .f64 a0_0) := (blk_cell BK737.out 0).trans rfl; have hcz45_1 : w40.cell? ⟨gb737, 1, none⟩ = some (.float .f64 a0_1) := (blk_cell BK737.out 1).trans rfl; have hfz45_0 := blk_frozen BK737.out 0; have hfz45_1 := blk_frozen BK737.out 1) | ((with_reducible refine gate_callee (f := 29) rfl ?_); refine goesM (some 19) Try.func29 #[.float .f64 a0_1] ?_; (with_reducible refine (l05_finite.calls k a0_1 t746 t747 t750 false _ A3.out).mono ?_); rintro e w46 ⟨v748, rfl, ho0, hb⟩; refine ⟨_, rfl, ?_⟩; have n0_ := Aside0.mk (Kd.R_elder' (by (with_reducible repeat (first | apply rA | apply rN | apply rD)); exact (Kd.R_mono (Kd.R_far (p := ⟨gb745, 2, none⟩) (Kd.R_far (p := ⟨gb745, 1, none⟩) (Kd.R_far (p := ⟨gb745, 0, none⟩) (Kd.R_types HO742.out BK745.out (by decide)) (fun _ hk => hk.2) (.bool t739)) (fun _ hk => hk.2) (.slice Ao44 t740.length co44)) (fun _ hk => hk.2) (.int .i64 t743)) (fun _ h_ => h_.1))) (Kd.R_base ho0) hb); have n1_ := Aside0.mk (Kd.R_lower (Kd.R_new' ho0 (Kd.R_lt (by (with_reducible repeat (first | apply rA | apply rN | apply rD)); exact (Kd.R_mono (Kd.R_far (p := ⟨gb745, 2, none⟩) (Kd.R_far (p := ⟨gb745, 1, none⟩) (Kd.R_far (p := ⟨gb745, 0, none⟩) (Kd.R_types HO742.out BK745.out (by decide)) (fun _ hk => hk.2) (.bool t739)) (fun _ hk => hk.2) (.slice Ao44 t740.length co44)) (fun _ hk => hk.2) (.int .i64 t743)) (fun _ h_ => h_.1))))) (below_size (bl_ HB))); have n2_ := Aside0.mk (blk_below (g := gb737) (o := .cells #[.float .f64 a0_0, .float .f64 a0_1] 30 (0, 0)) (by (with_reducible repeat (first | apply bN | apply bD | apply bA)); refine blk_far ?_ NB737_745.out _; (with_reducible repeat (first | apply bN | apply bD | apply bA)); refine blk_far ?_ NB737_745.out _; (with_reducible repeat (first | apply bN | apply bD | apply bA)); refine blk_far ?_ NB737_745.out _; exact bk_ BK737) hb); have n3_ := Aside0.mk (blk_below (g := gb738) (o := .cells #[.bool false, .slice none 0 0, .int .i64 0] 43 (0, 0)) (by (with_reducible repeat (first | apply bN | apply bD | apply bA)); refine blk_far ?_ NB738_745.out _; (with_reducible repeat (first | apply bN | apply bD | apply bA)); refine blk_far ?_ NB738_745.out _; (with_reducible repeat (first | apply bN | apply bD | apply bA)); refine blk_far ?_ NB738_745.out _; exact bk_ BK738) hb); have n4_ := Aside0.mk (blk_below (g := gb745) (o := .cells #[.bool t739, .slice Ao44 t740.length co44, .int .i64 t743] 43 (0, 0)) (by (with_reducible repeat (first | apply bN | apply bD | apply bA)); refine blk_put (cs := #[.bool t739, .slice Ao44 t740.length co44, .int .i64 0]) ?_ 2 _ rfl; (with_reducible repeat (first | apply bN | apply bD | apply bA)); refine blk_put (cs := #[.bool t739, .slice none 0 0, .int .i64 0]) ?_ 1 _ rfl; (with_reducible repeat (first | apply bN | apply bD | apply bA)); refine blk_put (cs := #[.bool false, .slice none 0 0, .int .i64 0]) ?_ 0 _ rfl; exact bk_ BK745) hb); have n5_ := bs_ HB hb; clear HO742; clear BK737; clear BK738; clear BK745; clear HB; have HO742 := n0_; have HO749 := n1_; have BK737 := n2_; have BK738 := n3_; have BK745 := n4_; have HB := n5_; clear n0_ n1_ n2_ n3_ n4_ n5_; (try clear hb); (try clear hb2); (try clear hk); (try clear hi); (try clear ho0)) | ((with_reducible refine gate_dst (N := 6) rfl ?_); refine box_event ?hg (N := 6) ?hd (cs := #[.bool false, .slice none 0 0, .int .i64 0]) (t := 43) ?hr ?_; (case hd => rfl); (case hg => rfl); (case hr => first | (go_simp; done) | (go_simp; rfl)); intro gb752 hg w47 hbox hb; have n0_ := Aside0.mk (Kd.R_below (rr_ HO742) hb); have n1_ := Aside0.mk (Kd.R_below (rr_ HO749) hb); have n2_ := kb_ BK737 hb; have n3_ := kb_ BK738 hb; have n4_ := kb_ BK745 hb; have n5_ := bs_ HB hb; have n6_ := Aside0.mk (hbox); have n7_ := ge_ HB hg; have n8_ := ge_ HB hg; have n9_ := nlt_ BK737 hg; have n10_ := ngt_ BK737 hg; have n11_ := nlt_ BK738 hg; have n12_ := ngt_ BK738 hg; have n13_ := nlt_ BK745 hg; have n14_ := ngt_ BK745 hg; clear HO742; clear HO749; clear BK737; clear BK738; clear BK745; clear HB; have HO742 := n0_; have HO749 := n1_; have BK737 := n2_; have BK738 := n3_; have BK745 := n4_; have HB := n5_; have BK752 := n6_; have GW752 := n7_; have GE752 := n8_; have NB737_752 := n9_; have NB752_737 := n10_; have NB738_752 := n11_; have NB752_738 := n12_; have NB745_752 := n13_; have NB752_745 := n14_; clear n0_ n1_ n2_ n3_ n4_ n5_ n6_ n7_ n8_ n9_ n10_ n11_ n12_ n13_ n14_; clear hb hbox hg; have hnb48 := NB752_737.out; have hnc48 := NB737_752.out; have hnb49 := NB752_738.out; have hnc49 := NB738_752.out; have hnb50 := NB752_745.out; have hnc50 := NB745_752.out; have hcz51_0 : w47.cell? ⟨gb752, 0, none⟩ = some (.bool false) := (blk_cell BK752.out 0).trans rfl; have hcz51_1 : w47.cell? ⟨gb752, 1, none⟩ = some (.slice none 0 0) := (blk_cell BK752.out 1).trans rfl; have hcz51_2 : w47.cell? ⟨gb752, 2, none⟩ = some (.int .i64 0) := (blk_cell BK752.out 2).trans rfl; have hfz51_0 := blk_frozen BK752.out 0; have hfz51_1 := blk_frozen BK752.out 1; have hfz51_2 := blk_frozen BK752.out 2; obtain ⟨Ao52, co52, eo52⟩ := Kd.R_slice HO749.out; subst eo52; have hcz53_0 : w47.cell? ⟨gb738, 0, none⟩ = some (.bool false) := (blk_cell BK738.out 0).trans rfl; have hcz53_1 : w47.cell? ⟨gb738, 1, none⟩ = some (.slice none 0 0) := (blk_cell BK738.out 1).trans rfl; have hcz53_2 : w47.cell? ⟨gb738, 2, none⟩ = some (.int .i64 0) := (blk_cell BK738.out 2).trans rfl; have hfz53_0 := blk_frozen BK738.out 0; have hfz53_1 := blk_frozen BK738.out 1; have hfz53_2 := blk_frozen BK738.out 2))
   refine bodyPost_ret (results_ct rfl _ _ gb738 43 #[.bool false, .slice none 0 0, .int .i64 0] (0, 0) _ rfl (by (with_reducible repeat (first | apply bN | apply bD | apply bA)); refine blk_put (cs := #[.bool false, .slice none 0 0, .int .i64 0]) ?_ 2 _ rfl; (with_reducible repeat (first | apply bN | apply bD | apply bA)); refine blk_put (cs := #[.bool false, .slice none 0 0, .int .i64 0]) ?_ 1 _ rfl; (with_reducible repeat (first | apply bN | apply bD | apply bA)); refine blk_put (cs := #[.bool false, .slice none 0 0, .int .i64 0]) ?_ 0 _ rfl; (with_reducible repeat (first | apply bN | apply bD | apply bA)); refine blk_far ?_ NB738_752.out _; (with_reducible repeat (first | apply bN | apply bD | apply bA)); refine blk_far ?_ NB738_752.out _; (with_reducible repeat (first | apply bN | apply bD | apply bA)); refine blk_far ?_ NB738_752.out _; exact bk_ BK738) Try.underlying43 rfl (by kernel_rfl)) rfl ?_
   exact ⟨_, by first | rfl | (simp [errW_none, errW_some] <;> rfl) | (simp [*, errW_none, errW_some] <;> rfl), by first | exact Kd.R_nil _ _ _ _ _ | exact Kd.N_nil _ _ _ _ _ | exact Kd.V_nil _ _ _ _ _ | exact Kd.Q_nil _ _ _ _ _ | exact Kd.S_nil _ _ _ _ _, bl_ HB⟩
 ·replace c4 := Bool.eq_false_iff.mpr c4
  subst c4
  have H1 : (some (false, ([] : List Int), 0, false)) = some (r1, r2, r3, r4) := by rw [if_neg (show ¬ (false = true) by decide)] at H; exact H
  clear H
  have H := H1
  clear H1
  simp only [Option.some.injEq, Prod.mk.injEq] at H
  obtain ⟨rfl, rfl, rfl, rfl⟩ := H
  go_enter Try.func34, Try.ntmps34
  go_wp2_with (first | ((with_reducible refine gate_dst (N := 1) rfl ?_); refine box_event ?hg (N := 1) ?hd (cs := #[.float .f64 a0_0, .float .f64 a0_1]) (t := 30) ?hr ?_; (case hd => rfl); (case hg => rfl); (case hr => first | (go_simp; done) | (go_simp; rfl)); intro gb737 hg w54 hbox hb; have n0_ := bs_ HB hb; have n1_ := Aside0.mk (hbox); have n2_ := ge_ HB hg; have n3_ := ge_ HB hg; clear HB; have HB := n0_; have BK737 := n1_; have GW737 := n2_; have GE737 := n3_; clear n0_ n1_ n2_ n3_; clear hb hbox hg) | ((with_reducible refine gate_dst (N := 2) rfl ?_); refine box_event ?hg (N := 2) ?hd (cs := #[.bool false, .slice none 0 0, .int .i64 0]) (t := 43) ?hr ?_; (case hd => rfl); (case hg => rfl); (case hr => first | (go_simp; done) | (go_simp; rfl)); intro gb738 hg w55 hbox hb; have n0_ := kb_ BK737 hb; have n1_ := bs_ HB hb; have n2_ := Aside0.mk (hbox); have n3_ := ge_ HB hg; have n4_ := ge_ HB hg; have n5_ := nlt_ BK737 hg; have n6_ := ngt_ BK737 hg; clear BK737; clear HB; have BK737 := n0_; have HB := n1_; have BK738 := n2_; have GW738 := n3_; have GE738 := n4_; have NB737_738 := n5_; have NB738_737 := n6_; clear n0_ n1_ n2_ n3_ n4_ n5_ n6_; clear hb hbox hg; have hnb56 := NB737_738.out; have hnc56 := NB738_737.out; have hcz57_0 : w55.cell? ⟨gb737, 0, none⟩ = some (.float .f64 a0_0) := (blk_cell BK737.out 0).trans rfl; have hcz57_1 : w55.cell? ⟨gb737, 1, none⟩ = some (.float .f64 a0_1) := (blk_cell BK737.out 1).trans rfl; have hfz57_0 := blk_frozen BK737.out 0; have hfz57_1 := blk_frozen BK737.out 1) | ((with_reducible refine gate_callee (f := 29) rfl ?_); refine goesM (some 13) Try.func29 #[.float .f64 a0_0] ?_; (with_reducible refine (l05_finite.calls k a0_0 t739 t740 t743 false _ A2.out).mono ?_); rintro e w58 ⟨v741, rfl, ho0, hb⟩; refine ⟨_, rfl, ?_⟩; have n0_ := Aside0.mk (Kd.R_lower ho0 (below_size (bl_ HB))); have n1_ := kb_ BK737 hb; have n2_ := kb_ BK738 hb; have n3_ := bs_ HB hb; clear BK737; clear BK738; clear HB; have HO742 := n0_; have BK737 := n1_; have BK738 := n2_; have HB := n3_; clear n0_ n1_ n2_ n3_; (try clear hb); (try clear hb2); (try clear hk); (try clear hi); (try clear ho0)) | ((with_reducible refine gate_dst (N := 4) rfl ?_); refine box_event ?hg (N := 4) ?hd (cs := #[.bool false, .slice none 0 0, .int .i64 0]) (t := 43) ?hr ?_; (case hd => rfl); (case hg => rfl); (case hr => first | (go_simp; done) | (go_simp; rfl)); intro gb745 hg w59 hbox hb; have n0_ := Aside0.mk (Kd.R_below (rr_ HO742) hb); have n1_ := kb_ BK737 hb; have n2_ := kb_ BK738 hb; have n3_ := bs_ HB hb; have n4_ := Aside0.mk (hbox); have n5_ := ge_ HB hg; have n6_ := ge_ HB hg; have n7_ := nlt_ BK737 hg; have n8_ := ngt_ BK737 hg; have n9_ := nlt_ BK738 hg; have n10_ := ngt_ BK738 hg; clear HO742; clear BK737; clear BK738; clear HB; have HO742 := n0_; have BK737 := n1_; have BK738 := n2_; have HB := n3_; have BK745 := n4_; have GW745 := n5_; have GE745 := n6_; have NB737_745 := n7_; have NB745_737 := n8_; have NB738_745 := n9_; have NB745_738 := n10_; clear n0_ n1_ n2_ n3_ n4_ n5_ n6_ n7_ n8_ n9_ n10_; clear hb hbox hg; have hnb60 := NB745_737.out; have hnc60 := NB737_745.out; have hnb61 := NB745_738.out; have hnc61 := NB738_745.out; have hcz62_0 : w59.cell? ⟨gb745, 0, none⟩ = some (.bool false) := (blk_cell BK745.out 0).trans rfl; have hcz62_1 : w59.cell? ⟨gb745, 1, none⟩ = some (.slice none 0 0) := (blk_cell BK745.out 1).trans rfl; have hcz62_2 : w59.cell? ⟨gb745, 2, none⟩ = some (.int .i64 0) := (blk_cell BK745.out 2).trans rfl; have hfz62_0 := blk_frozen BK745.out 0; have hfz62_1 := blk_frozen BK745.out 1; have hfz62_2 := blk_frozen BK745.out 2; obtain ⟨Ao63, co63, eo63⟩ := Kd.R_slice HO742.out; subst eo63; have hcz64_0 : w59.cell? ⟨gb737, 0, none⟩ = some (.float .f64 a0_0) := (blk_cell BK737.out 0).trans rfl; have hcz64_1 : w59.cell? ⟨gb737, 1, none⟩ = some (.float .f64 a0_1) := (blk_cell BK737.out 1).trans rfl; have hfz64_0 := blk_frozen BK737.out 0; have hfz64_1 := blk_frozen BK737.out 1) | ((with_reducible refine gate_callee (f := 29) rfl ?_); refine goesM (some 19) Try.func29 #[.float .f64 a0_1] ?_; (with_reducible refine (l05_finite.calls k a0_1 t746 t747 t750 t751 _ A3.out).mono ?_); rintro e w65 ⟨v748, rfl, ho0, hb⟩; refine ⟨_, rfl, ?_⟩; have n0_ := Aside0.mk (Kd.R_elder' (by (with_reducible repeat (first | apply rA | apply rN | apply rD)); exact (Kd.R_mono (Kd.R_far (p := ⟨gb745, 2, none⟩) (Kd.R_far (p := ⟨gb745, 1, none⟩) (Kd.R_far (p := ⟨gb745, 0, none⟩) (Kd.R_types HO742.out BK745.out (by decide)) (fun _ hk => hk.2) (.bool t739)) (fun _ hk => hk.2) (.slice Ao63 t740.length co63)) (fun _ hk => hk.2) (.int .i64 t743)) (fun _ h_ => h_.1))) (Kd.R_base ho0) hb); have n1_ := Aside0.mk (Kd.R_lower (Kd.R_new' ho0 (Kd.R_lt (by (with_reducible repeat (first | apply rA | apply rN | apply rD)); exact (Kd.R_mono (Kd.R_far (p := ⟨gb745, 2, none⟩) (Kd.R_far (p := ⟨gb745, 1, none⟩) (Kd.R_far (p := ⟨gb745, 0, none⟩) (Kd.R_types HO742.out BK745.out (by decide)) (fun _ hk => hk.2) (.bool t739)) (fun _ hk => hk.2) (.slice Ao63 t740.length co63)) (fun _ hk => hk.2) (.int .i64 t743)) (fun _ h_ => h_.1))))) (below_size (bl_ HB))); have n2_ := Aside0.mk (blk_below (g := gb737) (o := .cells #[.float .f64 a0_0, .float .f64 a0_1] 30 (0, 0)) (by (with_reducible repeat (first | apply bN | apply bD | apply bA)); refine blk_far ?_ NB737_745.out _; (with_reducible repeat (first | apply bN | apply bD | apply bA)); refine blk_far ?_ NB737_745.out _; (with_reducible repeat (first | apply bN | apply bD | apply bA)); refine blk_far ?_ NB737_745.out _; exact bk_ BK737) hb); have n3_ := Aside0.mk (blk_below (g := gb738) (o := .cells #[.bool false, .slice none 0 0, .int .i64 0] 43 (0, 0)) (by (with_reducible repeat (first | apply bN | apply bD | apply bA)); refine blk_far ?_ NB738_745.out _; (with_reducible repeat (first | apply bN | apply bD | apply bA)); refine blk_far ?_ NB738_745.out _; (with_reducible repeat (first | apply bN | apply bD | apply bA)); refine blk_far ?_ NB738_745.out _; exact bk_ BK738) hb); have n4_ := Aside0.mk (blk_below (g := gb745) (o := .cells #[.bool t739, .slice Ao63 t740.length co63, .int .i64 t743] 43 (0, 0)) (by (with_reducible repeat (first | apply bN | apply bD | apply bA)); refine blk_put (cs := #[.bool t739, .slice Ao63 t740.length co63, .int .i64 0]) ?_ 2 _ rfl; (with_reducible repeat (first | apply bN | apply bD | apply bA)); refine blk_put (cs := #[.bool t739, .slice none 0 0, .int .i64 0]) ?_ 1 _ rfl; (with_reducible repeat (first | apply bN | apply bD | apply bA)); refine blk_put (cs := #[.bool false, .slice none 0 0, .int .i64 0]) ?_ 0 _ rfl; exact bk_ BK745) hb); have n5_ := bs_ HB hb; clear HO742; clear BK737; clear BK738; clear BK745; clear HB; have HO742 := n0_; have HO749 := n1_; have BK737 := n2_; have BK738 := n3_; have BK745 := n4_; have HB := n5_; clear n0_ n1_ n2_ n3_ n4_ n5_; (try clear hb); (try clear hb2); (try clear hk); (try clear hi); (try clear ho0)) | ((with_reducible refine gate_dst (N := 6) rfl ?_); refine box_event ?hg (N := 6) ?hd (cs := #[.bool false, .slice none 0 0, .int .i64 0]) (t := 43) ?hr ?_; (case hd => rfl); (case hg => rfl); (case hr => first | (go_simp; done) | (go_simp; rfl)); intro gb752 hg w66 hbox hb; have n0_ := Aside0.mk (Kd.R_below (rr_ HO742) hb); have n1_ := Aside0.mk (Kd.R_below (rr_ HO749) hb); have n2_ := kb_ BK737 hb; have n3_ := kb_ BK738 hb; have n4_ := kb_ BK745 hb; have n5_ := bs_ HB hb; have n6_ := Aside0.mk (hbox); have n7_ := ge_ HB hg; have n8_ := ge_ HB hg; have n9_ := nlt_ BK737 hg; have n10_ := ngt_ BK737 hg; have n11_ := nlt_ BK738 hg; have n12_ := ngt_ BK738 hg; have n13_ := nlt_ BK745 hg; have n14_ := ngt_ BK745 hg; clear HO742; clear HO749; clear BK737; clear BK738; clear BK745; clear HB; have HO742 := n0_; have HO749 := n1_; have BK737 := n2_; have BK738 := n3_; have BK745 := n4_; have HB := n5_; have BK752 := n6_; have GW752 := n7_; have GE752 := n8_; have NB737_752 := n9_; have NB752_737 := n10_; have NB738_752 := n11_; have NB752_738 := n12_; have NB745_752 := n13_; have NB752_745 := n14_; clear n0_ n1_ n2_ n3_ n4_ n5_ n6_ n7_ n8_ n9_ n10_ n11_ n12_ n13_ n14_; clear hb hbox hg; have hnb67 := NB752_737.out; have hnc67 := NB737_752.out; have hnb68 := NB752_738.out; have hnc68 := NB738_752.out; have hnb69 := NB752_745.out; have hnc69 := NB745_752.out; have hcz70_0 : w66.cell? ⟨gb752, 0, none⟩ = some (.bool false) := (blk_cell BK752.out 0).trans rfl; have hcz70_1 : w66.cell? ⟨gb752, 1, none⟩ = some (.slice none 0 0) := (blk_cell BK752.out 1).trans rfl; have hcz70_2 : w66.cell? ⟨gb752, 2, none⟩ = some (.int .i64 0) := (blk_cell BK752.out 2).trans rfl; have hfz70_0 := blk_frozen BK752.out 0; have hfz70_1 := blk_frozen BK752.out 1; have hfz70_2 := blk_frozen BK752.out 2; obtain ⟨Ao71, co71, eo71⟩ := Kd.R_slice HO749.out; subst eo71; have hcz72_0 : w66.cell? ⟨gb738, 0, none⟩ = some (.bool false) := (blk_cell BK738.out 0).trans rfl; have hcz72_1 : w66.cell? ⟨gb738, 1, none⟩ = some (.slice none 0 0) := (blk_cell BK738.out 1).trans rfl; have hcz72_2 : w66.cell? ⟨gb738, 2, none⟩ = some (.int .i64 0) := (blk_cell BK738.out 2).trans rfl; have hfz72_0 := blk_frozen BK738.out 0; have hfz72_1 := blk_frozen BK738.out 1; have hfz72_2 := blk_frozen BK738.out 2))
  refine bodyPost_ret (results_ct rfl _ _ gb738 43 #[.bool false, .slice none 0 0, .int .i64 0] (0, 0) _ rfl (by (with_reducible repeat (first | apply bN | apply bD | apply bA)); refine blk_put (cs := #[.bool false, .slice none 0 0, .int .i64 0]) ?_ 2 _ rfl; (with_reducible repeat (first | apply bN | apply bD | apply bA)); refine blk_put (cs := #[.bool false, .slice none 0 0, .int .i64 0]) ?_ 1 _ rfl; (with_reducible repeat (first | apply bN | apply bD | apply bA)); refine blk_put (cs := #[.bool false, .slice none 0 0, .int .i64 0]) ?_ 0 _ rfl; (with_reducible repeat (first | apply bN | apply bD | apply bA)); refine blk_far ?_ NB738_752.out _; (with_reducible repeat (first | apply bN | apply bD | apply bA)); refine blk_far ?_ NB738_752.out _; (with_reducible repeat (first | apply bN | apply bD | apply bA)); refine blk_far ?_ NB738_752.out _; exact bk_ BK738) Try.underlying43 rfl (by kernel_rfl)) rfl ?_
  exact ⟨_, by first | rfl | (simp [errW_none, errW_some] <;> rfl) | (simp [*, errW_none, errW_some] <;> rfl), by first | exact Kd.R_nil _ _ _ _ _ | exact Kd.N_nil _ _ _ _ _ | exact Kd.V_nil _ _ _ _ _ | exact Kd.Q_nil _ _ _ _ _ | exact Kd.S_nil _ _ _ _ _, bl_ HB⟩

end Go.Proofs.Ytdemanikmaafeaa.Pr
-- written by this session's own program (wip/fprint.py), which widens the kit's print by floats
namespace Go.Proofs.Ytdemanikmaafeaa.Pr
open Go.RowKit Go.Proofs.YtdemanikmaafeaaW.PrintWords Go.Proofs.YtdemanikmaafeaaW.PrintLast Go.Proofs.YtdemanikmaafeaaW.PrintMore
attribute [local go_sem] max2_int min2_int max_two min_two max_three min_three max_four min_four   -- for this text's walks alone
set_option linter.unusedVariables false
set_option linter.unusedSimpArgs false

/-! ### l05_just: function 52 -/
def l05_just.f (k : Nat) (a0_0 : Nat) (a0_1 : Nat) (a1_0 : Bool) (l1_1 : List Int) (a1_2 : Int) : Option (Bool) := (l05_worth.f k a0_0 a0_1).bind fun bt762 => (if bt762.2.2.2 = true then ((r03_Cmp.f k bt762.1 bt762.2.1 bt762.2.2.1 a1_0 l1_1 a1_2).bind fun t769 => (some (t769 == 0))) else (none))
theorem l05_just.mono : ∀ a0 a1 a2 a3 a4 k, LeO (l05_just.f k a0 a1 a2 a3 a4) (l05_just.f (k + 1) a0 a1 a2 a3 a4) := by
 intro a0 a1 a2 a3 a4 k
 unfold l05_just.f
 repeat' first
   | (with_reducible exact l05_worth.mono _ _ _)
   | (with_reducible exact r03_Cmp.mono _ _ _ _ _ _ _)
   | (with_reducible exact LeO.refl _)
   | (with_reducible exact LeO.none _)
   | (with_reducible refine LeO.ite ?_ ?_)
   | (with_reducible refine LeO.bind ?_ (fun _ => ?_))
   | exact l05_worth.mono _ _ _
   | exact r03_Cmp.mono _ _ _ _ _ _ _
   | exact LeO.none _
   | refine LeO.ite ?_ ?_
   | refine LeO.bind ?_ (fun _ => ?_)
set_option maxHeartbeats 3000000 in
set_option maxRecDepth 100000 in
theorem l05_just.calls (k : Nat) (a0_0 : Nat) (a0_1 : Nat) (a1_0 : Bool) (A1_1 : Option Addr) (c1_1 : Nat) (l1_1 : List Int) (a1_2 : Int) (r : Bool) (w : World) (hr1_1 : Kd.C (Kd.int .u32) w A1_1 l1_1.length l1_1) (hc1_1 : l1_1.length ≤ c1_1) (h : l05_just.f k a0_0 a0_1 a1_0 l1_1 a1_2 = some r) :
  Calls Try.prog 52 #[.agg #[.float .f64 a0_0, .float .f64 a0_1], .agg #[.bool a1_0, .slice A1_1 l1_1.length c1_1, .int .i64 a1_2]] w fun e w' => e = .returned (.bool r) ∧ Below w.heap.size w w' := by
 have hu30 := Try.underlying30
 have hu43 := Try.underlying43
 have HR1_1 := Aside0.mk hr1_1
 have HC1_1 := Aside0.mk hc1_1
 clear hr1_1 hc1_1
 have HB := Aside0.mk (Below.refl w.heap.size w)
 have H : ((l05_worth.f k a0_0 a0_1).bind fun bt762 => (if bt762.2.2.2 = true then ((r03_Cmp.f k bt762.1 bt762.2.1 bt762.2.2.1 a1_0 l1_1 a1_2).bind fun t769 => (some (t769 == 0))) else (none))) = some r := h
 clear h
 obtain ⟨⟨t762, t763, t766, t767⟩, A3, H⟩ := ob_ H
 try dsimp only at H
 by_cases c4 : t767 = true
 ·subst c4
  have H1 : ((r03_Cmp.f k t762 t763 t766 a1_0 l1_1 a1_2).bind fun t769 => (some (t769 == 0))) = some r := by rw [if_pos rfl] at H; exact H
  clear H
  have H := H1
  clear H1
  obtain ⟨t769, A5, H⟩ := ob_ H
  try dsimp only at H
  obtain rfl := Option.some.inj H
  go_enter Try.func52, Try.ntmps52
  go_wp2_with (first | ((with_reducible refine gate_dst (N := 2) rfl ?_); refine box_event ?hg (N := 2) ?hd (cs := #[.float .f64 a0_0, .float .f64 a0_1]) (t := 30) ?hr ?_; (case hd => rfl); (case hg => rfl); (case hr => first | (go_simp; done) | (go_simp; rfl)); intro gb760 hg w6 hbox hb; have n0_ := bs_ HB hb; have n1_ := Aside0.mk (hbox); have n2_ := ge_ HB hg; have n3_ := ge_ HB hg; clear HB; have HB := n0_; have BK760 := n1_; have GW760 := n2_; have GE760 := n3_; clear n0_ n1_ n2_ n3_; clear hb hbox hg) | ((with_reducible refine gate_dst (N := 3) rfl ?_); refine box_event ?hg (N := 3) ?hd (cs := #[.bool a1_0, .slice A1_1 l1_1.length c1_1, .int .i64 a1_2]) (t := 43) ?hr ?_; (case hd => rfl); (case hg => rfl); (case hr => first | (go_simp; done) | (go_simp; rfl)); intro gb761 hg w7 hbox hb; have n0_ := kb_ BK760 hb; have n1_ := bs_ HB hb; have n2_ := Aside0.mk (hbox); have n3_ := ge_ HB hg; have n4_ := ge_ HB hg; have n5_ := nlt_ BK760 hg; have n6_ := ngt_ BK760 hg; clear BK760; clear HB; have BK760 := n0_; have HB := n1_; have BK761 := n2_; have GW761 := n3_; have GE761 := n4_; have NB760_761 := n5_; have NB761_760 := n6_; clear n0_ n1_ n2_ n3_ n4_ n5_ n6_; clear hb hbox hg; have hnb8 := NB760_761.out; have hnc8 := NB761_760.out; have hcz9_0 : w7.cell? ⟨gb760, 0, none⟩ = some (.float .f64 a0_0) := (blk_cell BK760.out 0).trans rfl; have hcz9_1 : w7.cell? ⟨gb760, 1, none⟩ = some (.float .f64 a0_1) := (blk_cell BK760.out 1).trans rfl; have hfz9_0 := blk_frozen BK760.out 0; have hfz9_1 := blk_frozen BK760.out 1) | ((with_reducible refine gate_callee (f := 34) rfl ?_); refine goesM (some 9) Try.func34 #[.agg #[.float .f64 a0_0, .float .f64 a0_1]] ?_; (with_reducible refine (l05_worth.calls k a0_0 a0_1 t762 t763 t766 true _ A3.out).mono ?_); rintro e w10 ⟨v764, rfl, ho0, hb⟩; refine ⟨_, rfl, ?_⟩; have n0_ := Aside0.mk (Kd.R_lower ho0 (below_size (bl_ HB))); have n1_ := kb_ BK760 hb; have n2_ := kb_ BK761 hb; have n3_ := bs_ HB hb; clear BK760; clear BK761; clear HB; have HO765 := n0_; have BK760 := n1_; have BK761 := n2_; have HB := n3_; clear n0_ n1_ n2_ n3_; (try clear hb); (try clear hb2); (try clear hk); (try clear hi); (try clear ho0)) | ((with_reducible refine gate_dst (N := 5) rfl ?_); refine box_event ?hg (N := 5) ?hd (cs := #[.bool false, .slice none 0 0, .int .i64 0]) (t := 43) ?hr ?_; (case hd => rfl); (case hg => rfl); (case hr => first | (go_simp; done) | (go_simp; rfl)); intro gb768 hg w11 hbox hb; have n0_ := Aside0.mk (Kd.R_below (rr_ HO765) hb); have n1_ := kb_ BK760 hb; have n2_ := kb_ BK761 hb; have n3_ := bs_ HB hb; have n4_ := Aside0.mk (hbox); have n5_ := ge_ HB hg; have n6_ := ge_ HB hg; have n7_ := nlt_ BK760 hg; have n8_ := ngt_ BK760 hg; have n9_ := nlt_ BK761 hg; have n10_ := ngt_ BK761 hg; clear HO765; clear BK760; clear BK761; clear HB; have HO765 := n0_; have BK760 := n1_; have BK761 := n2_; have HB := n3_; have BK768 := n4_; have GW768 := n5_; have GE768 := n6_; have NB760_768 := n7_; have NB768_760 := n8_; have NB761_768 := n9_; have NB768_761 := n10_; clear n0_ n1_ n2_ n3_ n4_ n5_ n6_ n7_ n8_ n9_ n10_; clear hb hbox hg; have hnb12 := NB768_760.out; have hnc12 := NB760_768.out; have hnb13 := NB768_761.out; have hnc13 := NB761_768.out; have hcz14_0 : w11.cell? ⟨gb768, 0, none⟩ = some (.bool false) := (blk_cell BK768.out 0).trans rfl; have hcz14_1 : w11.cell? ⟨gb768, 1, none⟩ = some (.slice none 0 0) := (blk_cell BK768.out 1).trans rfl; have hcz14_2 : w11.cell? ⟨gb768, 2, none⟩ = some (.int .i64 0) := (blk_cell BK768.out 2).trans rfl; have hfz14_0 := blk_frozen BK768.out 0; have hfz14_1 := blk_frozen BK768.out 1; have hfz14_2 := blk_frozen BK768.out 2; obtain ⟨Ao15, co15, eo15⟩ := Kd.R_slice HO765.out; subst eo15; have hcz16_0 : w11.cell? ⟨gb761, 0, none⟩ = some (.bool a1_0) := (blk_cell BK761.out 0).trans rfl; have hcz16_1 : w11.cell? ⟨gb761, 1, none⟩ = some (.slice A1_1 l1_1.length c1_1) := (blk_cell BK761.out 1).trans rfl; have hcz16_2 : w11.cell? ⟨gb761, 2, none⟩ = some (.int .i64 a1_2) := (blk_cell BK761.out 2).trans rfl; have hfz16_0 := blk_frozen BK761.out 0; have hfz16_1 := blk_frozen BK761.out 1; have hfz16_2 := blk_frozen BK761.out 2) | (go_at_call 53; (with_reducible refine (r03_Cmp.calls k t762 _ _ t763 t766 a1_0 _ _ l1_1 a1_2 t769 _ ?side1 ?side2 ?side3 ?side4 A5.out).mono ?_); (case side1 => refine (Kd.R_reads' (e := 72) (base := w.heap.size) (ok := fun k_ => True) (n := t763.length) (c := co15) ?_).2.2; exact (by (with_reducible repeat (first | apply rA | apply rN | apply rD)); exact (Kd.R_mono (Kd.R_far (p := ⟨gb768, 2, none⟩) (Kd.R_far (p := ⟨gb768, 1, none⟩) (Kd.R_far (p := ⟨gb768, 0, none⟩) (Kd.R_types HO765.out BK768.out (by decide)) (fun _ hk => hk.2) (.bool t762)) (fun _ hk => hk.2) (.slice Ao15 t763.length co15)) (fun _ hk => hk.2) (.int .i64 t766)) (fun _ h_ => h_.1)))); (case side2 => exact (Kd.R_reads' HO765.out).2.1); (case side3 => exact Kd.C_below HR1_1.out (bl_ HB)); (case side4 => exact HC1_1.out); rintro e w17 ⟨rfl, hb⟩; have n0_ := Aside0.mk (Kd.R_below (by (with_reducible repeat (first | apply rA | apply rN | apply rD)); exact (Kd.R_mono (Kd.R_far (p := ⟨gb768, 2, none⟩) (Kd.R_far (p := ⟨gb768, 1, none⟩) (Kd.R_far (p := ⟨gb768, 0, none⟩) (Kd.R_types HO765.out BK768.out (by decide)) (fun _ hk => hk.2) (.bool t762)) (fun _ hk => hk.2) (.slice Ao15 t763.length co15)) (fun _ hk => hk.2) (.int .i64 t766)) (fun _ h_ => h_.1))) hb); have n1_ := Aside0.mk (blk_below (g := gb760) (o := .cells #[.float .f64 a0_0, .float .f64 a0_1] 30 (0, 0)) (by (with_reducible repeat (first | apply bN | apply bD | apply bA)); refine blk_far ?_ NB760_768.out _; (with_reducible repeat (first | apply bN | apply bD | apply bA)); refine blk_far ?_ NB760_768.out _; (with_reducible repeat (first | apply bN | apply bD | apply bA)); refine blk_far ?_ NB760_768.out _; exact bk_ BK760) hb); have n2_ := Aside0.mk (blk_below (g := gb761) (o := .cells #[.bool a1_0, .slice A1_1 l1_1.length c1_1, .int .i64 a1_2] 43 (0, 0)) (by (with_reducible repeat (first | apply bN | apply bD | apply bA)); refine blk_far ?_ NB761_768.out _; (with_reducible repeat (first | apply bN | apply bD | apply bA)); refine blk_far ?_ NB761_768.out _; (with_reducible repeat (first | apply bN | apply bD | apply bA)); refine blk_far ?_ NB761_768.out _; exact bk_ BK761) hb); have n3_ := Aside0.mk (blk_below (g := gb768) (o := .cells #[.bool t762, .slice Ao15 t763.length co15, .int .i64 t766] 43 (0, 0)) (by (with_reducible repeat (first | apply bN | apply bD | apply bA)); refine blk_put (cs := #[.bool t762, .slice Ao15 t763.length co15, .int .i64 0]) ?_ 2 _ rfl; (with_reducible repeat (first | apply bN | apply bD | apply bA)); refine blk_put (cs := #[.bool t762, .slice none 0 0, .int .i64 0]) ?_ 1 _ rfl; (with_reducible repeat (first | apply bN | apply bD | apply bA)); refine blk_put (cs := #[.bool false, .slice none 0 0, .int .i64 0]) ?_ 0 _ rfl; exact bk_ BK768) hb); have n4_ := bs_ HB hb; clear HO765; clear BK760; clear BK761; clear BK768; clear HB; have HO765 := n0_; have BK760 := n1_; have BK761 := n2_; have BK768 := n3_; have HB := n4_; clear n0_ n1_ n2_ n3_ n4_; (try clear hb); (try clear hb2); (try clear hk); (try clear hi)))
  go_ret
  exact ⟨by first | rfl | (simp [errW_none, errW_some] <;> rfl) | (simp [*, errW_none, errW_some] <;> rfl), bl_ HB⟩
 ·replace c4 := Bool.eq_false_iff.mpr c4
  subst c4
  have H1 : (none) = some r := by rw [if_neg (show ¬ (false = true) by decide)] at H; exact H
  clear H
  have H := H1
  clear H1
  exact absurd H (by simp)

end Go.Proofs.Ytdemanikmaafeaa.Pr
-- written by this session's own program (wip/fprint.py), which widens the kit's print by floats
namespace Go.Proofs.Ytdemanikmaafeaa.Pr
open Go.RowKit Go.Proofs.YtdemanikmaafeaaW.PrintWords Go.Proofs.YtdemanikmaafeaaW.PrintLast Go.Proofs.YtdemanikmaafeaaW.PrintMore
attribute [local go_sem] max2_int min2_int max_two min_two max_three min_three max_four min_four   -- for this text's walks alone
set_option linter.unusedVariables false
set_option linter.unusedSimpArgs false

/-! ### l05_sums: function 30 -/
def l05_sums.j0 : Nat → Nat → Nat → Bool → Bool → List Int → Int → Bool → List Int → Int → Option (Bool)
 | 0, _, _, _, _, _, _, _, _, _ => none
 | k + 1, x0, x1, x24, x771000, x771001, x771002, x772000, x772001, x772002 => if x24 = true then (some true) else ((r03_Add.f k x771000 x771001 x771002 x772000 x772001 x772002).bind fun bt774 => ((pair_Sum.f x0 x1).bind fun bt781 => ((l05_just.f k bt781.1 bt781.2 bt774.1 bt774.2.1 bt774.2.2.1).bind fun t783 => ((l05_size.f x771000 x771001 x771002).bind fun bt784 => ((l05_size.f x772000 x772001 x772002).bind fun bt789 => ((r03_Cmp.f k bt784.1 bt784.2.1 bt784.2.2 bt789.1 bt789.2.1 bt789.2.2).bind fun t794 => (if t794 ≥ 0 then ((pair_Quick.f x0 x1).bind fun bt795 => ((l05_just.f k bt795.1 bt795.2 bt774.1 bt774.2.1 bt774.2.2.1).bind fun t797 => (if t783 = true then (some t797) else (none)))) else (some t783))))))))
def l05_sums.f (k : Nat) (a0 : Nat) (a1 : Nat) (a2_0 : Bool) (l2_1 : List Int) (a2_2 : Int) (a3_0 : Bool) (l3_1 : List Int) (a3_2 : Int) : Option (Bool) := (l05_within.f k a2_0 l2_1 a2_2 1022).bind fun t772 => ((l05_within.f k a3_0 l3_1 a3_2 1022).bind fun t773 => (if t772 = true then (l05_sums.j0 k a0 a1 (!t773) a2_0 l2_1 a2_2 a3_0 l3_1 a3_2) else (l05_sums.j0 k a0 a1 true a2_0 l2_1 a2_2 a3_0 l3_1 a3_2)))
theorem l05_sums.mono_l : ∀ k, (∀ y0 y1 y2 y3 y4 y5 y6 y7 y8, LeO (l05_sums.j0 k y0 y1 y2 y3 y4 y5 y6 y7 y8) (l05_sums.j0 (k + 1) y0 y1 y2 y3 y4 y5 y6 y7 y8))
 | 0 => fun _ _ _ _ _ _ _ _ _ r h => by simp [l05_sums.j0] at h
 | k + 1 => by
  have ih0 := l05_sums.mono_l k
  ·intro y0 y1 y2 y3 y4 y5 y6 y7 y8
   unfold l05_sums.j0
   repeat' first
   | (with_reducible exact ih0 _ _ _ _ _ _ _ _ _)
   | (with_reducible exact l05_just.mono _ _ _ _ _ _)
   | (with_reducible exact l05_within.mono _ _ _ _ _)
   | (with_reducible exact r03_Add.mono _ _ _ _ _ _ _)
   | (with_reducible exact r03_Cmp.mono _ _ _ _ _ _ _)
   | (with_reducible exact LeO.refl _)
   | (with_reducible exact LeO.none _)
   | (with_reducible refine LeO.ite ?_ ?_)
   | (with_reducible refine LeO.bind ?_ (fun _ => ?_))
   | exact ih0 _ _ _ _ _ _ _ _ _
   | exact l05_just.mono _ _ _ _ _ _
   | exact l05_within.mono _ _ _ _ _
   | exact r03_Add.mono _ _ _ _ _ _ _
   | exact r03_Cmp.mono _ _ _ _ _ _ _
   | exact LeO.none _
   | refine LeO.ite ?_ ?_
   | refine LeO.bind ?_ (fun _ => ?_)
theorem l05_sums.mono : ∀ a0 a1 a2 a3 a4 a5 a6 a7 k, LeO (l05_sums.f k a0 a1 a2 a3 a4 a5 a6 a7) (l05_sums.f (k + 1) a0 a1 a2 a3 a4 a5 a6 a7) := by
 intro a0 a1 a2 a3 a4 a5 a6 a7 k
 have ih0 := l05_sums.mono_l k
 unfold l05_sums.f
 repeat' first
   | (with_reducible exact ih0 _ _ _ _ _ _ _ _ _)
   | (with_reducible exact l05_just.mono _ _ _ _ _ _)
   | (with_reducible exact l05_within.mono _ _ _ _ _)
   | (with_reducible exact r03_Add.mono _ _ _ _ _ _ _)
   | (with_reducible exact r03_Cmp.mono _ _ _ _ _ _ _)
   | (with_reducible exact LeO.refl _)
   | (with_reducible exact LeO.none _)
   | (with_reducible refine LeO.ite ?_ ?_)
   | (with_reducible refine LeO.bind ?_ (fun _ => ?_))
   | exact ih0 _ _ _ _ _ _ _ _ _
   | exact l05_just.mono _ _ _ _ _ _
   | exact l05_within.mono _ _ _ _ _
   | exact r03_Add.mono _ _ _ _ _ _ _
   | exact r03_Cmp.mono _ _ _ _ _ _ _
   | exact LeO.none _
   | refine LeO.ite ?_ ?_
   | refine LeO.bind ?_ (fun _ => ?_)
set_option maxHeartbeats 3000000 in
set_option maxRecDepth 100000 in
theorem l05_sums.calls (k : Nat) (a0 : Nat) (a1 : Nat) (a2_0 : Bool) (A2_1 : Option Addr) (c2_1 : Nat) (l2_1 : List Int) (a2_2 : Int) (a3_0 : Bool) (A3_1 : Option Addr) (c3_1 : Nat) (l3_1 : List Int) (a3_2 : Int) (r : Bool) (w : World) (hr2_1 : Kd.C (Kd.int .u32) w A2_1 l2_1.length l2_1) (hc2_1 : l2_1.length ≤ c2_1) (hr3_1 : Kd.C (Kd.int .u32) w A3_1 l3_1.length l3_1) (hc3_1 : l3_1.length ≤ c3_1) (h : l05_sums.f k a0 a1 a2_0 l2_1 a2_2 a3_0 l3_1 a3_2 = some r) :
  Calls Try.prog 30 #[.float .f64 a0, .float .f64 a1, .agg #[.bool a2_0, .slice A2_1 l2_1.length c2_1, .int .i64 a2_2], .agg #[.bool a3_0, .slice A3_1 l3_1.length c3_1, .int .i64 a3_2]] w fun e w' => e = .returned (.bool r) ∧ Below w.heap.size w w' := by
 have hu43 := Try.underlying43
 have HR2_1 := Aside0.mk hr2_1
 have HC2_1 := Aside0.mk hc2_1
 clear hr2_1 hc2_1
 have HR3_1 := Aside0.mk hr3_1
 have HC3_1 := Aside0.mk hc3_1
 clear hr3_1 hc3_1
 have HB := Aside0.mk (Below.refl w.heap.size w)
 have H : ((l05_within.f k a2_0 l2_1 a2_2 1022).bind fun t772 => ((l05_within.f k a3_0 l3_1 a3_2 1022).bind fun t773 => (if t772 = true then (l05_sums.j0 k a0 a1 (!t773) a2_0 l2_1 a2_2 a3_0 l3_1 a3_2) else (l05_sums.j0 k a0 a1 true a2_0 l2_1 a2_2 a3_0 l3_1 a3_2)))) = some r := h
 clear h
 obtain ⟨t772, A5, H⟩ := ob_ H
 try dsimp only at H
 obtain ⟨t773, A6, H⟩ := ob_ H
 try dsimp only at H
 have HC7 := Aside0.mk H
 clear H
 go_enter Try.func30, Try.ntmps30
 go_upto_region 3 with (first | ((with_reducible refine gate_dst (N := 6) rfl ?_); refine box_event ?hg (N := 6) ?hd (cs := #[.bool a2_0, .slice A2_1 l2_1.length c2_1, .int .i64 a2_2]) (t := 43) ?hr ?_; (case hd => rfl); (case hg => rfl); (case hr => first | (go_simp; done) | (go_simp; rfl)); intro gb770 hg w8 hbox hb; have n0_ := bs_ HB hb; have n1_ := Aside0.mk (hbox); have n2_ := ge_ HB hg; have n3_ := ge_ HB hg; clear HB; have HB := n0_; have BK770 := n1_; have GW770 := n2_; have GE770 := n3_; clear n0_ n1_ n2_ n3_; clear hb hbox hg) | ((with_reducible refine gate_dst (N := 7) rfl ?_); refine box_event ?hg (N := 7) ?hd (cs := #[.bool a3_0, .slice A3_1 l3_1.length c3_1, .int .i64 a3_2]) (t := 43) ?hr ?_; (case hd => rfl); (case hg => rfl); (case hr => first | (go_simp; done) | (go_simp; rfl)); intro gb771 hg w9 hbox hb; have n0_ := kb_ BK770 hb; have n1_ := bs_ HB hb; have n2_ := Aside0.mk (hbox); have n3_ := ge_ HB hg; have n4_ := ge_ HB hg; have n5_ := nlt_ BK770 hg; have n6_ := ngt_ BK770 hg; clear BK770; clear HB; have BK770 := n0_; have HB := n1_; have BK771 := n2_; have GW771 := n3_; have GE771 := n4_; have NB770_771 := n5_; have NB771_770 := n6_; clear n0_ n1_ n2_ n3_ n4_ n5_ n6_; clear hb hbox hg; have hnb10 := NB770_771.out; have hnc10 := NB771_770.out; have hcz11_0 : w9.cell? ⟨gb770, 0, none⟩ = some (.bool a2_0) := (blk_cell BK770.out 0).trans rfl; have hcz11_1 : w9.cell? ⟨gb770, 1, none⟩ = some (.slice A2_1 l2_1.length c2_1) := (blk_cell BK770.out 1).trans rfl; have hcz11_2 : w9.cell? ⟨gb770, 2, none⟩ = some (.int .i64 a2_2) := (blk_cell BK770.out 2).trans rfl; have hfz11_0 := blk_frozen BK770.out 0; have hfz11_1 := blk_frozen BK770.out 1; have hfz11_2 := blk_frozen BK770.out 2) | ((with_reducible refine gate_callee (f := 51) rfl ?_); refine goesM (some 16) Try.func51 #[.agg #[.bool a2_0, .slice A2_1 l2_1.length c2_1, .int .i64 a2_2], .int .i64 1022] ?_; (with_reducible refine (l05_within.calls k a2_0 _ _ l2_1 a2_2 1022 t772 _ ?side1 ?side2 A5.out).mono ?_); (case side1 => repeat (first | exact (Kd.C_below HR2_1.out HB.out) | (with_reducible first | apply cA | apply cN | apply cD))); (case side2 => exact HC2_1.out); rintro e w12 ⟨rfl, hb⟩; refine ⟨_, rfl, ?_⟩; have n0_ := kb_ BK770 hb; have n1_ := kb_ BK771 hb; have n2_ := bs_ HB hb; clear BK770; clear BK771; clear HB; have BK770 := n0_; have BK771 := n1_; have HB := n2_; clear n0_ n1_ n2_; (try clear hb); (try clear hb2); (try clear hk); (try clear hi); have hcz13_0 : w12.cell? ⟨gb771, 0, none⟩ = some (.bool a3_0) := (blk_cell BK771.out 0).trans rfl; have hcz13_1 : w12.cell? ⟨gb771, 1, none⟩ = some (.slice A3_1 l3_1.length c3_1) := (blk_cell BK771.out 1).trans rfl; have hcz13_2 : w12.cell? ⟨gb771, 2, none⟩ = some (.int .i64 a3_2) := (blk_cell BK771.out 2).trans rfl; have hfz13_0 := blk_frozen BK771.out 0; have hfz13_1 := blk_frozen BK771.out 1; have hfz13_2 := blk_frozen BK771.out 2) | ((with_reducible refine gate_callee (f := 51) rfl ?_); refine goesM (some 18) Try.func51 #[.agg #[.bool a3_0, .slice A3_1 l3_1.length c3_1, .int .i64 a3_2], .int .i64 1022] ?_; (with_reducible refine (l05_within.calls k a3_0 _ _ l3_1 a3_2 1022 t773 _ ?side1 ?side2 A6.out).mono ?_); (case side1 => repeat (first | exact (Kd.C_below HR3_1.out HB.out) | (with_reducible first | apply cA | apply cN | apply cD))); (case side2 => exact HC3_1.out); rintro e w14 ⟨rfl, hb⟩; refine ⟨_, rfl, ?_⟩; have n0_ := kb_ BK770 hb; have n1_ := kb_ BK771 hb; have n2_ := bs_ HB hb; clear BK770; clear BK771; clear HB; have BK770 := n0_; have BK771 := n1_; have HB := n2_; clear n0_ n1_ n2_; (try clear hb); (try clear hb2); (try clear hk); (try clear hi)))
 (try simp only [Act.put, List.setIfInBounds_toArray, List.set_cons_zero, List.set_cons_succ])
 go_cut [24] (fun v24 wc => ∃ (kq : Nat) (x24_6 : Bool), v24 = .bool x24_6 ∧ Aside0 (l05_sums.j0 kq a0 a1 x24_6 a2_0 l2_1 a2_2 a3_0 l3_1 a3_2 = some r) ∧ Aside0 (kq ≤ k) ∧ Aside0 (wc.heap[gb770]? = some (.cells #[.bool a2_0, (.slice A2_1 l2_1.length c2_1), .int .i64 a2_2] 43 (0, 0))) ∧ Aside0 (wc.heap[gb771]? = some (.cells #[.bool a3_0, (.slice A3_1 l3_1.length c3_1), .int .i64 a3_2] 43 (0, 0))) ∧ Aside0 (Below w.heap.size w wc))
 case first =>
  have H := HC7.out
  clear HC7
  by_cases c15 : t772 = true
  ·subst c15
   have H1 : (l05_sums.j0 k a0 a1 (!t773) a2_0 l2_1 a2_2 a3_0 l3_1 a3_2) = some r := by rw [if_pos rfl] at H; exact H
   clear H
   have H := H1
   clear H1
   have H' := Aside0.mk H
   clear H
   go_wp2
   go_meet
   case rel => exact ⟨_, (!t773), (by first | rfl | (simp; done) | (simp [*]; done)), H', ⟨by first | omega | exact Nat.le_refl _⟩, ⟨bk_ BK770⟩, ⟨bk_ BK771⟩, ⟨bl_ HB⟩⟩
  ·replace c15 := Bool.eq_false_iff.mpr c15
   subst c15
   have H1 : (l05_sums.j0 k a0 a1 true a2_0 l2_1 a2_2 a3_0 l3_1 a3_2) = some r := by rw [if_neg (show ¬ (false = true) by decide)] at H; exact H
   clear H
   have H := H1
   clear H1
   have H' := Aside0.mk H
   clear H
   go_wp2
   go_meet
   case rel => exact ⟨_, (true), (by first | rfl | (simp; done) | (simp [*]; done)), H', ⟨by first | omega | exact Nat.le_refl _⟩, ⟨bk_ BK770⟩, ⟨bk_ BK771⟩, ⟨bl_ HB⟩⟩
 case rest =>
  clear HC7
  try clear c1
  try clear c2
  try clear p2
  try clear c3
  try clear c5
  try clear c10
  try clear c15
  try clear hcz11_0
  try clear hcz11_1
  try clear hcz11_2
  try clear hcz13_0
  try clear hcz13_1
  try clear hcz13_2
  try clear hfz11_0
  try clear hfz11_1
  try clear hfz11_2
  try clear hfz13_0
  try clear hfz13_1
  try clear hfz13_2
  obtain ⟨kq, x24_6, rfl, HA, HJ6, BK770, BK771, HB⟩ := hcut
  cases kq with
  | zero => exact absurd HA.out (by simp [l05_sums.j0])
  | succ kj6 =>
   have H := HA.out
   clear HA
   simp only [l05_sums.j0] at H
   by_cases c16 : x24_6 = true
   ·subst c16
    have H1 : (some true) = some r := by rw [if_pos rfl] at H; exact H
    clear H
    have H := H1
    clear H1
    obtain rfl := Option.some.inj H
    go_wp2
    go_ret
    exact ⟨by first | rfl | (simp [errW_none, errW_some] <;> rfl) | (simp [*, errW_none, errW_some] <;> rfl), bl_ HB⟩
   ·replace c16 := Bool.eq_false_iff.mpr c16
    subst c16
    have H1 : ((r03_Add.f kj6 a2_0 l2_1 a2_2 a3_0 l3_1 a3_2).bind fun bt774 => ((pair_Sum.f a0 a1).bind fun bt781 => ((l05_just.f kj6 bt781.1 bt781.2 bt774.1 bt774.2.1 bt774.2.2.1).bind fun t783 => ((l05_size.f a2_0 l2_1 a2_2).bind fun bt784 => ((l05_size.f a3_0 l3_1 a3_2).bind fun bt789 => ((r03_Cmp.f kj6 bt784.1 bt784.2.1 bt784.2.2 bt789.1 bt789.2.1 bt789.2.2).bind fun t794 => (if t794 ≥ 0 then ((pair_Quick.f a0 a1).bind fun bt795 => ((l05_just.f kj6 bt795.1 bt795.2 bt774.1 bt774.2.1 bt774.2.2.1).bind fun t797 => (if t783 = true then (some t797) else (none)))) else (some t783)))))))) = some r := by rw [if_neg (show ¬ (false = true) by decide)] at H; exact H
    clear H
    have H := H1
    clear H1
    obtain ⟨⟨t774, t775, t778, t779⟩, A17, H⟩ := ob_ H
    try dsimp only at H
    obtain ⟨⟨t781, t782⟩, A18, H⟩ := ob_ H
    try dsimp only at H
    obtain ⟨t783, A19, H⟩ := ob_ H
    try dsimp only at H
    obtain ⟨⟨t784, t785, t788⟩, A20, H⟩ := ob_ H
    try dsimp only at H
    obtain ⟨⟨t789, t790, t793⟩, A21, H⟩ := ob_ H
    try dsimp only at H
    obtain ⟨t794, A22, H⟩ := ob_ H
    try dsimp only at H
    by_cases c23 : t794 ≥ 0
    ·rw [if_pos c23] at H
     have c23b0 : decide (0 ≤ t794) = true := decide_eq_true c23
     clear c23
     obtain ⟨⟨t795, t796⟩, A24, H⟩ := ob_ H
     try dsimp only at H
     obtain ⟨t797, A25, H⟩ := ob_ H
     try dsimp only at H
     by_cases c26 : t783 = true
     ·subst c26
      have H1 : (some t797) = some r := by rw [if_pos rfl] at H; exact H
      clear H
      have H := H1
      clear H1
      obtain rfl := Option.some.inj H
      have hnb27 := NB770_771.out
      have hnc27 := NB771_770.out
      have hcz28_0 : wc.cell? ⟨gb770, 0, none⟩ = some (.bool a2_0) := (blk_cell BK770.out 0).trans rfl
      have hcz28_1 : wc.cell? ⟨gb770, 1, none⟩ = some (.slice A2_1 l2_1.length c2_1) := (blk_cell BK770.out 1).trans rfl
      have hcz28_2 : wc.cell? ⟨gb770, 2, none⟩ = some (.int .i64 a2_2) := (blk_cell BK770.out 2).trans rfl
      have hfz28_0 := blk_frozen BK770.out 0
      have hfz28_1 := blk_frozen BK770.out 1
      have hfz28_2 := blk_frozen BK770.out 2
      have hcz29_0 : wc.cell? ⟨gb771, 0, none⟩ = some (.bool a3_0) := (blk_cell BK771.out 0).trans rfl
      have hcz29_1 : wc.cell? ⟨gb771, 1, none⟩ = some (.slice A3_1 l3_1.length c3_1) := (blk_cell BK771.out 1).trans rfl
      have hcz29_2 : wc.cell? ⟨gb771, 2, none⟩ = some (.int .i64 a3_2) := (blk_cell BK771.out 2).trans rfl
      have hfz29_0 := blk_frozen BK771.out 0
      have hfz29_1 := blk_frozen BK771.out 1
      have hfz29_2 := blk_frozen BK771.out 2
      try go_wp2_with (first | ((with_reducible refine gate_callee (f := 35) rfl ?_); refine goesM (some 28) Try.func35 #[.agg #[.bool a2_0, .slice A2_1 l2_1.length c2_1, .int .i64 a2_2], .agg #[.bool a3_0, .slice A3_1 l3_1.length c3_1, .int .i64 a3_2]] ?_; (with_reducible refine (r03_Add.calls kj6 a2_0 _ _ l2_1 a2_2 a3_0 _ _ l3_1 a3_2 t774 t775 t778 t779 _ ?side1 ?side2 ?side3 ?side4 A17.out).mono ?_); (case side1 => repeat (first | exact (Kd.C_below HR2_1.out HB.out) | (with_reducible first | apply cA | apply cN | apply cD))); (case side2 => exact HC2_1.out); (case side3 => repeat (first | exact (Kd.C_below HR3_1.out HB.out) | (with_reducible first | apply cA | apply cN | apply cD))); (case side4 => exact HC3_1.out); rintro e w30 ⟨v776, rfl, ho0, hb⟩; refine ⟨_, rfl, ?_⟩; have n0_ := Aside0.mk (Kd.R_lower ho0 (below_size (bl_ HB))); have n1_ := kb_ BK770 hb; have n2_ := kb_ BK771 hb; have n3_ := bs_ HB hb; clear BK770; clear BK771; clear HB; have HO777 := n0_; have BK770 := n1_; have BK771 := n2_; have HB := n3_; clear n0_ n1_ n2_ n3_; (try clear hb); (try clear hb2); (try clear hk); (try clear hi); (try clear ho0)) | ((with_reducible refine gate_dst (N := 11) rfl ?_); refine box_event ?hg (N := 11) ?hd (cs := #[.bool false, .slice none 0 0, .int .i64 0]) (t := 43) ?hr ?_; (case hd => rfl); (case hg => rfl); (case hr => first | (go_simp; done) | (go_simp; rfl)); intro gb780 hg w31 hbox hb; have n0_ := Aside0.mk (Kd.R_below (rr_ HO777) hb); have n1_ := kb_ BK770 hb; have n2_ := kb_ BK771 hb; have n3_ := bs_ HB hb; have n4_ := Aside0.mk (hbox); have n5_ := ge_ HB hg; have n6_ := ge_ HB hg; have n7_ := nlt_ BK770 hg; have n8_ := ngt_ BK770 hg; have n9_ := nlt_ BK771 hg; have n10_ := ngt_ BK771 hg; clear HO777; clear BK770; clear BK771; clear HB; have HO777 := n0_; have BK770 := n1_; have BK771 := n2_; have HB := n3_; have BK780 := n4_; have GW780 := n5_; have GE780 := n6_; have NB770_780 := n7_; have NB780_770 := n8_; have NB771_780 := n9_; have NB780_771 := n10_; clear n0_ n1_ n2_ n3_ n4_ n5_ n6_ n7_ n8_ n9_ n10_; clear hb hbox hg; have hnb32 := NB780_770.out; have hnc32 := NB770_780.out; have hnb33 := NB780_771.out; have hnc33 := NB771_780.out; have hcz34_0 : w31.cell? ⟨gb780, 0, none⟩ = some (.bool false) := (blk_cell BK780.out 0).trans rfl; have hcz34_1 : w31.cell? ⟨gb780, 1, none⟩ = some (.slice none 0 0) := (blk_cell BK780.out 1).trans rfl; have hcz34_2 : w31.cell? ⟨gb780, 2, none⟩ = some (.int .i64 0) := (blk_cell BK780.out 2).trans rfl; have hfz34_0 := blk_frozen BK780.out 0; have hfz34_1 := blk_frozen BK780.out 1; have hfz34_2 := blk_frozen BK780.out 2; obtain ⟨Ao35, co35, eo35⟩ := Kd.R_slice HO777.out; subst eo35))
      have n0_ : Aside0 (Kd.R (Kd.int .u32) 72 (((w31.setCell ⟨gb780, 0, none⟩ (.bool t774)).setCell ⟨gb780, 1, none⟩ (.slice Ao35 t775.length co35)).setCell ⟨gb780, 2, none⟩ (.int .i64 t778)) w.heap.size (fun _ => True) (.slice Ao35 t775.length co35) t775) := ⟨by (with_reducible repeat (first | apply rA | apply rN | apply rD)); exact Kd.R_mono (Kd.R_far (p := ⟨gb780, 2, none⟩) (Kd.R_far (p := ⟨gb780, 1, none⟩) (Kd.R_far (p := ⟨gb780, 0, none⟩) (Kd.R_types HO777.out BK780.out (by decide)) (fun _ hk => hk.2) (.bool t774)) (fun _ hk => hk.2) (.slice Ao35 t775.length co35)) (fun _ hk => hk.2) (.int .i64 t778)) (fun _ hk => trivial)⟩
      have n1_ : Aside0 ((((w31.setCell ⟨gb780, 0, none⟩ (.bool t774)).setCell ⟨gb780, 1, none⟩ (.slice Ao35 t775.length co35)).setCell ⟨gb780, 2, none⟩ (.int .i64 t778)).heap[gb770]? = some (.cells #[.bool a2_0, .slice A2_1 l2_1.length c2_1, .int .i64 a2_2] 43 (0, 0))) := ⟨by (with_reducible repeat (first | apply bN | apply bD | apply bA)); refine blk_far ?_ NB770_780.out _; (with_reducible repeat (first | apply bN | apply bD | apply bA)); refine blk_far ?_ NB770_780.out _; (with_reducible repeat (first | apply bN | apply bD | apply bA)); refine blk_far ?_ NB770_780.out _; exact bk_ BK770⟩
      have n2_ : Aside0 ((((w31.setCell ⟨gb780, 0, none⟩ (.bool t774)).setCell ⟨gb780, 1, none⟩ (.slice Ao35 t775.length co35)).setCell ⟨gb780, 2, none⟩ (.int .i64 t778)).heap[gb771]? = some (.cells #[.bool a3_0, .slice A3_1 l3_1.length c3_1, .int .i64 a3_2] 43 (0, 0))) := ⟨by (with_reducible repeat (first | apply bN | apply bD | apply bA)); refine blk_far ?_ NB771_780.out _; (with_reducible repeat (first | apply bN | apply bD | apply bA)); refine blk_far ?_ NB771_780.out _; (with_reducible repeat (first | apply bN | apply bD | apply bA)); refine blk_far ?_ NB771_780.out _; exact bk_ BK771⟩
      have n3_ : Aside0 ((((w31.setCell ⟨gb780, 0, none⟩ (.bool t774)).setCell ⟨gb780, 1, none⟩ (.slice Ao35 t775.length co35)).setCell ⟨gb780, 2, none⟩ (.int .i64 t778)).heap[gb780]? = some (.cells #[.bool t774, .slice Ao35 t775.length co35, .int .i64 t778] 43 (0, 0))) := ⟨by (with_reducible repeat (first | apply bN | apply bD | apply bA)); refine blk_put (cs := #[.bool t774, .slice Ao35 t775.length co35, .int .i64 0]) ?_ 2 _ rfl; (with_reducible repeat (first | apply bN | apply bD | apply bA)); refine blk_put (cs := #[.bool t774, .slice none 0 0, .int .i64 0]) ?_ 1 _ rfl; (with_reducible repeat (first | apply bN | apply bD | apply bA)); refine blk_put (cs := #[.bool false, .slice none 0 0, .int .i64 0]) ?_ 0 _ rfl; exact bk_ BK780⟩
      have n4_ : Aside0 (Below w.heap.size w (((w31.setCell ⟨gb780, 0, none⟩ (.bool t774)).setCell ⟨gb780, 1, none⟩ (.slice Ao35 t775.length co35)).setCell ⟨gb780, 2, none⟩ (.int .i64 t778))) := ⟨bl_ HB⟩
      (try clear HO777)
      (try clear BK770)
      (try clear BK771)
      (try clear BK780)
      (try clear HB)
      generalize (((w31.setCell ⟨gb780, 0, none⟩ (.bool t774)).setCell ⟨gb780, 1, none⟩ (.slice Ao35 t775.length co35)).setCell ⟨gb780, 2, none⟩ (.int .i64 t778)) = w36 at n0_ n1_ n2_ n3_ n4_ ⊢
      have HO777 := n0_
      have BK770 := n1_
      have BK771 := n2_
      have BK780 := n3_
      have HB := n4_
      clear n0_ n1_ n2_ n3_ n4_
      have n0_ := Aside0.mk (Kd.R_drew HO777.out)
      have n1_ := Aside0.mk (blk_drew BK770.out)
      have n2_ := Aside0.mk (blk_drew BK771.out)
      have n3_ := Aside0.mk (blk_drew BK780.out)
      have n4_ := Aside0.mk (below_drew1 HB.out)
      clear HO777
      clear BK770
      clear BK771
      clear BK780
      clear HB
      have HO777 := n0_
      have BK770 := n1_
      have BK771 := n2_
      have BK780 := n3_
      have HB := n4_
      clear n0_ n1_ n2_ n3_ n4_
      refine start_ (n := 6) (S := fun w' => w'.cell? ⟨gb780, 0, none⟩ = some (.bool t774) ∧ w'.cell? ⟨gb780, 1, none⟩ = some (.slice Ao35 t775.length co35) ∧ w'.cell? ⟨gb780, 2, none⟩ = some (.int .i64 t778)) (ds := []) #[false, false, false, false, false, false] (by kernel_rfl) rfl rfl ⟨(blk_cell BK780.out 0).trans rfl, (blk_cell BK780.out 1).trans rfl, (blk_cell BK780.out 2).trans rfl⟩ (fun hHeld => ?_)
      generalize w36.drew = w37 at HO777 BK770 BK771 BK780 HB hHeld ⊢
      refine pure_ (i := 0) (N := some 31) (v := ?_) (a' := ?_) #[true, false, false, false, false, false] rfl rfl (by kernel_rfl) (fun _ _ _ h => h) (Or.inl ⟨by rfl, ?_⟩) ?_ ?_
      rotate_left
      ·intro w'
       go_simp
       with_reducible rfl
      rotate_left
      ·simp only [Act.put, List.setIfInBounds_toArray, List.set_cons_zero, List.set_cons_succ, i64_w, i32_w]
       rfl
      refine pure_ (i := 1) (N := some 32) (v := ?_) (a' := ?_) #[true, true, false, false, false, false] rfl rfl (by kernel_rfl) (fun _ _ _ h => h) (Or.inl ⟨by rfl, ?_⟩) ?_ ?_
      rotate_left
      ·intro w'
       go_simp
       with_reducible rfl
      rotate_left
      ·simp only [Act.put, List.setIfInBounds_toArray, List.set_cons_zero, List.set_cons_succ, i64_w, i32_w]
       rfl
      refine take_ (i := 3) (N := some 34) (v := ?_) (a' := ?_) #[true, true, false, true, false, false] rfl rfl (by kernel_rfl) (fun _ _ _ h => h) (Or.inl ⟨by rfl, ?_⟩) hHeld ?_ ?_
      rotate_left
      ·rintro w' ⟨s0, s1, s2⟩
       go_simp
       with_reducible rfl
      rotate_left
      ·simp only [Act.put, List.setIfInBounds_toArray, List.set_cons_zero, List.set_cons_succ, i64_w, i32_w]
       rfl
      refine one_ (i := 2) (N := some 33) #[true, true, true, true, false, false] rfl rfl (by kernel_rfl) (by decide) (fun K hK => ?_)
      refine goes_ Try.func12 (by kernel_rfl) rfl #[.float .f64 a0, .float .f64 a1] (by rfl) rfl rfl (by (try simp only [List.map_toArray, List.map_cons, List.map_nil]); first | done | rfl | (simp only [List.length_drop, List.length_take]; rfl)) ?_
      with_reducible refine (pair_Sum.calls a0 a1 t781 t782 _ A18.out).mono ?_
      rintro e w38 ⟨rfl, hb⟩
      refine ⟨_, rfl, ?_⟩
      have n0_ := Aside0.mk (Kd.R_below (rr_ HO777) hb)
      have n1_ := kb_ BK770 hb
      have n2_ := kb_ BK771 hb
      have n3_ := kb_ BK780 hb
      have n4_ := bs_ HB hb
      clear HO777
      clear BK770
      clear BK771
      clear BK780
      clear HB
      have HO777 := n0_
      have BK770 := n1_
      have BK771 := n2_
      have BK780 := n3_
      have HB := n4_
      clear n0_ n1_ n2_ n3_ n4_
      (try clear hb)
      (try clear hb2)
      (try clear hk)
      (try clear hi)
      refine hK.out _ _ ⟨(blk_cell BK780.out 0).trans rfl, (blk_cell BK780.out 1).trans rfl, (blk_cell BK780.out 2).trans rfl⟩ (fun hHeld => ?_)
      clear hK K
      refine norm_ (a' := ?_) ?_ ?_
      rotate_left
      ·show Act.put _ (some 33) _ = _
       simp only [Act.put, List.setIfInBounds_toArray, List.set_cons_zero, List.set_cons_succ, i64_w, i32_w]
       rfl
      refine one_ (i := 4) (N := some 35) #[true, true, true, true, true, false] rfl rfl (by kernel_rfl) (by decide) (fun K hK => ?_)
      refine goes_ Try.func52 (by kernel_rfl) rfl #[.agg #[.float .f64 t781, .float .f64 t782], .agg #[.bool t774, .slice Ao35 t775.length co35, .int .i64 t778]] (by rfl) rfl rfl (by (try simp only [List.map_toArray, List.map_cons, List.map_nil]); first | done | rfl | (simp only [List.length_drop, List.length_take]; rfl)) ?_
      with_reducible refine (l05_just.calls kj6 t781 t782 t774 _ _ t775 t778 true _ ?side1 ?side2 A19.out).mono ?_
      (case side1 => repeat (first | exact (Kd.R_reads' HO777.out).2.2 | (with_reducible first | apply cA | apply cN | apply cD)))
      (case side2 => exact (Kd.R_reads' HO777.out).2.1)
      rintro e w39 ⟨rfl, hb⟩
      refine ⟨_, rfl, ?_⟩
      have n0_ := Aside0.mk (Kd.R_below (rr_ HO777) hb)
      have n1_ := kb_ BK770 hb
      have n2_ := kb_ BK771 hb
      have n3_ := kb_ BK780 hb
      have n4_ := bs_ HB hb
      clear HO777
      clear BK770
      clear BK771
      clear BK780
      clear HB
      have HO777 := n0_
      have BK770 := n1_
      have BK771 := n2_
      have BK780 := n3_
      have HB := n4_
      clear n0_ n1_ n2_ n3_ n4_
      (try clear hb)
      (try clear hb2)
      (try clear hk)
      (try clear hi)
      refine hK.out _ _ ⟨(blk_cell BK780.out 0).trans rfl, (blk_cell BK780.out 1).trans rfl, (blk_cell BK780.out 2).trans rfl⟩ (fun hHeld => ?_)
      clear hK K
      refine norm_ (a' := ?_) ?_ ?_
      rotate_left
      ·show Act.put _ (some 35) _ = _
       simp only [Act.put, List.setIfInBounds_toArray, List.set_cons_zero, List.set_cons_succ, i64_w, i32_w]
       rfl
      refine pure_ (i := 5) (N := some 13) (v := ?_) (a' := ?_) #[true, true, true, true, true, true] rfl rfl (by kernel_rfl) (fun _ _ _ h => h) (Or.inl ⟨by rfl, ?_⟩) ?_ ?_
      rotate_left
      ·intro w'
       go_simp
       with_reducible rfl
      rotate_left
      ·simp only [Act.put, List.setIfInBounds_toArray, List.set_cons_zero, List.set_cons_succ, i64_w, i32_w]
       rfl
      refine done_ (by kernel_rfl) ?_
      try go_wp2
      have n0_ := Aside0.mk (Kd.R_drew HO777.out)
      have n1_ := Aside0.mk (blk_drew BK770.out)
      have n2_ := Aside0.mk (blk_drew BK771.out)
      have n3_ := Aside0.mk (blk_drew BK780.out)
      have n4_ := Aside0.mk (below_drew1 HB.out)
      clear HO777
      clear BK770
      clear BK771
      clear BK780
      clear HB
      have HO777 := n0_
      have BK770 := n1_
      have BK771 := n2_
      have BK780 := n3_
      have HB := n4_
      clear n0_ n1_ n2_ n3_ n4_
      refine start_ (n := 6) (S := fun w' => w'.cell? ⟨gb770, 0, none⟩ = some (.bool a2_0) ∧ w'.cell? ⟨gb770, 1, none⟩ = some (.slice A2_1 l2_1.length c2_1) ∧ w'.cell? ⟨gb770, 2, none⟩ = some (.int .i64 a2_2) ∧ w'.cell? ⟨gb771, 0, none⟩ = some (.bool a3_0) ∧ w'.cell? ⟨gb771, 1, none⟩ = some (.slice A3_1 l3_1.length c3_1) ∧ w'.cell? ⟨gb771, 2, none⟩ = some (.int .i64 a3_2)) (ds := []) #[false, false, false, false, false, false] (by kernel_rfl) rfl rfl ⟨(blk_cell BK770.out 0).trans rfl, (blk_cell BK770.out 1).trans rfl, (blk_cell BK770.out 2).trans rfl, (blk_cell BK771.out 0).trans rfl, (blk_cell BK771.out 1).trans rfl, (blk_cell BK771.out 2).trans rfl⟩ (fun hHeld => ?_)
      generalize w39.drew = w40 at HO777 BK770 BK771 BK780 HB hHeld ⊢
      refine take_ (i := 0) (N := some 36) (v := ?_) (a' := ?_) #[true, false, false, false, false, false] rfl rfl (by kernel_rfl) (fun _ _ _ h => h) (Or.inl ⟨by rfl, ?_⟩) hHeld ?_ ?_
      rotate_left
      ·rintro w' ⟨s0, s1, s2, s3, s4, s5⟩
       go_simp
       with_reducible rfl
      rotate_left
      ·simp only [Act.put, List.setIfInBounds_toArray, List.set_cons_zero, List.set_cons_succ, i64_w, i32_w]
       rfl
      refine take_ (i := 2) (N := some 38) (v := ?_) (a' := ?_) #[true, false, true, false, false, false] rfl rfl (by kernel_rfl) (fun _ _ _ h => h) (Or.inl ⟨by rfl, ?_⟩) hHeld ?_ ?_
      rotate_left
      ·rintro w' ⟨s0, s1, s2, s3, s4, s5⟩
       go_simp
       with_reducible rfl
      rotate_left
      ·simp only [Act.put, List.setIfInBounds_toArray, List.set_cons_zero, List.set_cons_succ, i64_w, i32_w]
       rfl
      refine one_ (i := 1) (N := some 37) #[true, true, true, false, false, false] rfl rfl (by kernel_rfl) (by decide) (fun K hK => ?_)
      refine goes_ Try.func54 (by kernel_rfl) rfl #[.agg #[.bool a2_0, .slice A2_1 l2_1.length c2_1, .int .i64 a2_2]] (by rfl) rfl rfl (by (try simp only [List.map_toArray, List.map_cons, List.map_nil]); first | done | rfl | (simp only [List.length_drop, List.length_take]; rfl)) ?_
      with_reducible refine (l05_size.calls a2_0 (fun k_ => k_ < w.heap.size) _ _ l2_1 a2_2 t784 t785 t788 _ ?side1 A20.out).mono ?_
      (case side1 => exact Kd.V_mk HC2_1.out (Kd.F_below (Kd.C_F (Kd.heap_int .u32) HR2_1.out) (bl_ HB)))
      rintro e w41 ⟨v786, rfl, ho0, hb⟩
      refine ⟨_, rfl, ?_⟩
      have n0_ := Aside0.mk (Kd.R_below (rr_ HO777) hb)
      have n1_ := Aside0.mk (Kd.V_lower (Kd.V_mono (ok' := fun k_ => some k_ ≠ (.slice Ao35 t775.length co35 : Value).ownBlock ∧ k_ ≠ gb770 ∧ k_ ≠ gb771 ∧ k_ ≠ gb780) ho0 (fun k_ hk_ => ⟨Or.elim hk_ (fun hs_ => fun e_ => Nat.not_le.2 hs_ (Kd.R_base HO777.out k_ e_.symm)) (fun hn_ => (Kd.fresh' (Kd.R_lt (rr_ HO777)) k_ hn_)), Or.elim hk_ (fun hs_ => fun e_ => Nat.not_le.2 hs_ (by rw [e_]; exact GW770.out)) (fun hn_ => (Kd.freshB (g := gb770) (o := .cells #[.bool a2_0, .slice A2_1 l2_1.length c2_1, .int .i64 a2_2] 43 (0, 0)) (bk_ BK770) k_ hn_)), Or.elim hk_ (fun hs_ => fun e_ => Nat.not_le.2 hs_ (by rw [e_]; exact GW771.out)) (fun hn_ => (Kd.freshB (g := gb771) (o := .cells #[.bool a3_0, .slice A3_1 l3_1.length c3_1, .int .i64 a3_2] 43 (0, 0)) (bk_ BK771) k_ hn_)), Or.elim hk_ (fun hs_ => fun e_ => Nat.not_le.2 hs_ (by rw [e_]; exact GW780.out)) (fun hn_ => (Kd.freshB (g := gb780) (o := .cells #[.bool t774, .slice Ao35 t775.length co35, .int .i64 t778] 43 (0, 0)) (bk_ BK780) k_ hn_))⟩)) (below_size (bl_ HB)))
      have n2_ := kb_ BK770 hb
      have n3_ := kb_ BK771 hb
      have n4_ := kb_ BK780 hb
      have n5_ := bs_ HB hb
      clear HO777
      clear BK770
      clear BK771
      clear BK780
      clear HB
      have HO777 := n0_
      have HO787 := n1_
      have BK770 := n2_
      have BK771 := n3_
      have BK780 := n4_
      have HB := n5_
      clear n0_ n1_ n2_ n3_ n4_ n5_
      (try clear hb)
      (try clear hb2)
      (try clear hk)
      (try clear hi)
      (try clear ho0)
      refine hK.out _ _ ⟨(blk_cell BK770.out 0).trans rfl, (blk_cell BK770.out 1).trans rfl, (blk_cell BK770.out 2).trans rfl, (blk_cell BK771.out 0).trans rfl, (blk_cell BK771.out 1).trans rfl, (blk_cell BK771.out 2).trans rfl⟩ (fun hHeld => ?_)
      clear hK K
      refine norm_ (a' := ?_) ?_ ?_
      rotate_left
      ·show Act.put _ (some 37) _ = _
       simp only [Act.put, List.setIfInBounds_toArray, List.set_cons_zero, List.set_cons_succ, i64_w, i32_w]
       rfl
      refine one_ (i := 3) (N := some 39) #[true, true, true, true, false, false] rfl rfl (by kernel_rfl) (by decide) (fun K hK => ?_)
      refine goes_ Try.func54 (by kernel_rfl) rfl #[.agg #[.bool a3_0, .slice A3_1 l3_1.length c3_1, .int .i64 a3_2]] (by rfl) rfl rfl (by (try simp only [List.map_toArray, List.map_cons, List.map_nil]); first | done | rfl | (simp only [List.length_drop, List.length_take]; rfl)) ?_
      with_reducible refine (l05_size.calls a3_0 (fun k_ => k_ < w.heap.size) _ _ l3_1 a3_2 t789 t790 t793 _ ?side1 A21.out).mono ?_
      (case side1 => exact Kd.V_mk HC3_1.out (Kd.F_below (Kd.C_F (Kd.heap_int .u32) HR3_1.out) (bl_ HB)))
      rintro e w42 ⟨v791, rfl, ho0, hb⟩
      refine ⟨_, rfl, ?_⟩
      have n0_ := Aside0.mk (Kd.R_below (rr_ HO777) hb)
      have n1_ := Aside0.mk (Kd.V_below (by (with_reducible repeat (first | apply Kd.V_alloc | apply Kd.V_drewN | apply Kd.V_drew)); exact HO787.out) hb)
      have n2_ := Aside0.mk (Kd.V_lower (Kd.V_mono (ok' := fun k_ => some k_ ≠ (.slice Ao35 t775.length co35 : Value).ownBlock ∧ k_ ≠ gb770 ∧ k_ ≠ gb771 ∧ k_ ≠ gb780) ho0 (fun k_ hk_ => ⟨Or.elim hk_ (fun hs_ => fun e_ => Nat.not_le.2 hs_ (Kd.R_base HO777.out k_ e_.symm)) (fun hn_ => (Kd.fresh' (Kd.R_lt (rr_ HO777)) k_ hn_)), Or.elim hk_ (fun hs_ => fun e_ => Nat.not_le.2 hs_ (by rw [e_]; exact GW770.out)) (fun hn_ => (Kd.freshB (g := gb770) (o := .cells #[.bool a2_0, .slice A2_1 l2_1.length c2_1, .int .i64 a2_2] 43 (0, 0)) (bk_ BK770) k_ hn_)), Or.elim hk_ (fun hs_ => fun e_ => Nat.not_le.2 hs_ (by rw [e_]; exact GW771.out)) (fun hn_ => (Kd.freshB (g := gb771) (o := .cells #[.bool a3_0, .slice A3_1 l3_1.length c3_1, .int .i64 a3_2] 43 (0, 0)) (bk_ BK771) k_ hn_)), Or.elim hk_ (fun hs_ => fun e_ => Nat.not_le.2 hs_ (by rw [e_]; exact GW780.out)) (fun hn_ => (Kd.freshB (g := gb780) (o := .cells #[.bool t774, .slice Ao35 t775.length co35, .int .i64 t778] 43 (0, 0)) (bk_ BK780) k_ hn_))⟩)) (below_size (bl_ HB)))
      have n3_ := kb_ BK770 hb
      have n4_ := kb_ BK771 hb
      have n5_ := kb_ BK780 hb
      have n6_ := bs_ HB hb
      clear HO777
      clear HO787
      clear BK770
      clear BK771
      clear BK780
      clear HB
      have HO777 := n0_
      have HO787 := n1_
      have HO792 := n2_
      have BK770 := n3_
      have BK771 := n4_
      have BK780 := n5_
      have HB := n6_
      clear n0_ n1_ n2_ n3_ n4_ n5_ n6_
      (try clear hb)
      (try clear hb2)
      (try clear hk)
      (try clear hi)
      (try clear ho0)
      obtain ⟨Ao43, co43, eo43⟩ := Kd.V_slice HO787.out
      (first | subst eo43 | (injection eo43 with f1_ f2_ f3_; have f4_ := f1_.symm; have f5_ := f3_.symm; clear f1_ f2_ f3_; subst f4_; subst f5_))
      obtain ⟨Ao44, co44, eo44⟩ := Kd.V_slice HO792.out
      (first | subst eo44 | (injection eo44 with f1_ f2_ f3_; have f4_ := f1_.symm; have f5_ := f3_.symm; clear f1_ f2_ f3_; subst f4_; subst f5_))
      refine hK.out _ _ ⟨(blk_cell BK770.out 0).trans rfl, (blk_cell BK770.out 1).trans rfl, (blk_cell BK770.out 2).trans rfl, (blk_cell BK771.out 0).trans rfl, (blk_cell BK771.out 1).trans rfl, (blk_cell BK771.out 2).trans rfl⟩ (fun hHeld => ?_)
      clear hK K
      refine norm_ (a' := ?_) ?_ ?_
      rotate_left
      ·show Act.put _ (some 39) _ = _
       simp only [Act.put, List.setIfInBounds_toArray, List.set_cons_zero, List.set_cons_succ, i64_w, i32_w]
       rfl
      refine one_ (i := 4) (N := some 40) #[true, true, true, true, true, false] rfl rfl (by kernel_rfl) (by decide) (fun K hK => ?_)
      refine goes_ Try.func53 (by kernel_rfl) rfl #[.agg #[.bool t784, .slice Ao43 t785.length co43, .int .i64 t788], .agg #[.bool t789, .slice Ao44 t790.length co44, .int .i64 t793]] (by rfl) rfl rfl (by (try simp only [List.map_toArray, List.map_cons, List.map_nil]); first | done | rfl | (simp only [List.length_drop, List.length_take]; rfl)) ?_
      with_reducible refine (r03_Cmp.calls kj6 t784 _ _ t785 t788 t789 _ _ t790 t793 t794 _ ?side1 ?side2 ?side3 ?side4 A22.out).mono ?_
      (case side1 => repeat (first | exact (Kd.V_reads' HO787.out).2.2 | (with_reducible first | apply cA | apply cN | apply cD)))
      (case side2 => exact (Kd.V_reads' HO787.out).2.1)
      (case side3 => repeat (first | exact (Kd.V_reads' HO792.out).2.2 | (with_reducible first | apply cA | apply cN | apply cD)))
      (case side4 => exact (Kd.V_reads' HO792.out).2.1)
      rintro e w45 ⟨rfl, hb⟩
      refine ⟨_, rfl, ?_⟩
      have n0_ := Aside0.mk (Kd.R_below (rr_ HO777) hb)
      have n1_ := Aside0.mk (Kd.V_below (by (with_reducible repeat (first | apply Kd.V_alloc | apply Kd.V_drewN | apply Kd.V_drew)); exact HO787.out) hb)
      have n2_ := Aside0.mk (Kd.V_below (by (with_reducible repeat (first | apply Kd.V_alloc | apply Kd.V_drewN | apply Kd.V_drew)); exact HO792.out) hb)
      have n3_ := kb_ BK770 hb
      have n4_ := kb_ BK771 hb
      have n5_ := kb_ BK780 hb
      have n6_ := bs_ HB hb
      clear HO777
      clear HO787
      clear HO792
      clear BK770
      clear BK771
      clear BK780
      clear HB
      have HO777 := n0_
      have HO787 := n1_
      have HO792 := n2_
      have BK770 := n3_
      have BK771 := n4_
      have BK780 := n5_
      have HB := n6_
      clear n0_ n1_ n2_ n3_ n4_ n5_ n6_
      (try clear hb)
      (try clear hb2)
      (try clear hk)
      (try clear hi)
      refine hK.out _ _ ⟨(blk_cell BK770.out 0).trans rfl, (blk_cell BK770.out 1).trans rfl, (blk_cell BK770.out 2).trans rfl, (blk_cell BK771.out 0).trans rfl, (blk_cell BK771.out 1).trans rfl, (blk_cell BK771.out 2).trans rfl⟩ (fun hHeld => ?_)
      clear hK K
      refine norm_ (a' := ?_) ?_ ?_
      rotate_left
      ·show Act.put _ (some 40) _ = _
       simp only [Act.put, List.setIfInBounds_toArray, List.set_cons_zero, List.set_cons_succ, i64_w, i32_w]
       rfl
      refine pure_ (i := 5) (N := some 41) (v := ?_) (a' := ?_) #[true, true, true, true, true, true] rfl rfl (by kernel_rfl) (fun _ _ _ h => h) (Or.inl ⟨by rfl, ?_⟩) ?_ ?_
      rotate_left
      ·intro w'
       go_simp
       with_reducible rfl
      rotate_left
      ·simp only [Act.put, List.setIfInBounds_toArray, List.set_cons_zero, List.set_cons_succ, i64_w, i32_w]
       rfl
      refine done_ (by kernel_rfl) ?_
      try go_wp2
      have n0_ := Aside0.mk (Kd.R_drew HO777.out)
      have n1_ := Aside0.mk (Kd.V_drew HO787.out)
      have n2_ := Aside0.mk (Kd.V_drew HO792.out)
      have n3_ := Aside0.mk (blk_drew BK770.out)
      have n4_ := Aside0.mk (blk_drew BK771.out)
      have n5_ := Aside0.mk (blk_drew BK780.out)
      have n6_ := Aside0.mk (below_drew1 HB.out)
      clear HO777
      clear HO787
      clear HO792
      clear BK770
      clear BK771
      clear BK780
      clear HB
      have HO777 := n0_
      have HO787 := n1_
      have HO792 := n2_
      have BK770 := n3_
      have BK771 := n4_
      have BK780 := n5_
      have HB := n6_
      clear n0_ n1_ n2_ n3_ n4_ n5_ n6_
      refine start_ (n := 6) (S := fun w' => w'.cell? ⟨gb780, 0, none⟩ = some (.bool t774) ∧ w'.cell? ⟨gb780, 1, none⟩ = some (.slice Ao35 t775.length co35) ∧ w'.cell? ⟨gb780, 2, none⟩ = some (.int .i64 t778)) (ds := []) #[false, false, false, false, false, false] (by kernel_rfl) rfl rfl ⟨(blk_cell BK780.out 0).trans rfl, (blk_cell BK780.out 1).trans rfl, (blk_cell BK780.out 2).trans rfl⟩ (fun hHeld => ?_)
      generalize w45.drew = w46 at HO777 HO787 HO792 BK770 BK771 BK780 HB hHeld ⊢
      refine pure_ (i := 0) (N := some 42) (v := ?_) (a' := ?_) #[true, false, false, false, false, false] rfl rfl (by kernel_rfl) (fun _ _ _ h => h) (Or.inl ⟨by rfl, ?_⟩) ?_ ?_
      rotate_left
      ·intro w'
       go_simp
       with_reducible rfl
      rotate_left
      ·simp only [Act.put, List.setIfInBounds_toArray, List.set_cons_zero, List.set_cons_succ, i64_w, i32_w]
       rfl
      refine pure_ (i := 1) (N := some 43) (v := ?_) (a' := ?_) #[true, true, false, false, false, false] rfl rfl (by kernel_rfl) (fun _ _ _ h => h) (Or.inl ⟨by rfl, ?_⟩) ?_ ?_
      rotate_left
      ·intro w'
       go_simp
       with_reducible rfl
      rotate_left
      ·simp only [Act.put, List.setIfInBounds_toArray, List.set_cons_zero, List.set_cons_succ, i64_w, i32_w]
       rfl
      refine take_ (i := 3) (N := some 45) (v := ?_) (a' := ?_) #[true, true, false, true, false, false] rfl rfl (by kernel_rfl) (fun _ _ _ h => h) (Or.inl ⟨by rfl, ?_⟩) hHeld ?_ ?_
      rotate_left
      ·rintro w' ⟨s0, s1, s2⟩
       go_simp
       with_reducible rfl
      rotate_left
      ·simp only [Act.put, List.setIfInBounds_toArray, List.set_cons_zero, List.set_cons_succ, i64_w, i32_w]
       rfl
      refine one_ (i := 2) (N := some 44) #[true, true, true, true, false, false] rfl rfl (by kernel_rfl) (by decide) (fun K hK => ?_)
      refine goes_ Try.func18 (by kernel_rfl) rfl #[.float .f64 a0, .float .f64 a1] (by rfl) rfl rfl (by (try simp only [List.map_toArray, List.map_cons, List.map_nil]); first | done | rfl | (simp only [List.length_drop, List.length_take]; rfl)) ?_
      with_reducible refine (pair_Quick.calls a0 a1 t795 t796 _ A24.out).mono ?_
      rintro e w47 ⟨rfl, hb⟩
      refine ⟨_, rfl, ?_⟩
      have n0_ := Aside0.mk (Kd.R_below (rr_ HO777) hb)
      have n1_ := Aside0.mk (Kd.V_below (by (with_reducible repeat (first | apply Kd.V_alloc | apply Kd.V_drewN | apply Kd.V_drew)); exact HO787.out) hb)
      have n2_ := Aside0.mk (Kd.V_below (by (with_reducible repeat (first | apply Kd.V_alloc | apply Kd.V_drewN | apply Kd.V_drew)); exact HO792.out) hb)
      have n3_ := kb_ BK770 hb
      have n4_ := kb_ BK771 hb
      have n5_ := kb_ BK780 hb
      have n6_ := bs_ HB hb
      clear HO777
      clear HO787
      clear HO792
      clear BK770
      clear BK771
      clear BK780
      clear HB
      have HO777 := n0_
      have HO787 := n1_
      have HO792 := n2_
      have BK770 := n3_
      have BK771 := n4_
      have BK780 := n5_
      have HB := n6_
      clear n0_ n1_ n2_ n3_ n4_ n5_ n6_
      (try clear hb)
      (try clear hb2)
      (try clear hk)
      (try clear hi)
      refine hK.out _ _ ⟨(blk_cell BK780.out 0).trans rfl, (blk_cell BK780.out 1).trans rfl, (blk_cell BK780.out 2).trans rfl⟩ (fun hHeld => ?_)
      clear hK K
      refine norm_ (a' := ?_) ?_ ?_
      rotate_left
      ·show Act.put _ (some 44) _ = _
       simp only [Act.put, List.setIfInBounds_toArray, List.set_cons_zero, List.set_cons_succ, i64_w, i32_w]
       rfl
      refine one_ (i := 4) (N := some 46) #[true, true, true, true, true, false] rfl rfl (by kernel_rfl) (by decide) (fun K hK => ?_)
      refine goes_ Try.func52 (by kernel_rfl) rfl #[.agg #[.float .f64 t795, .float .f64 t796], .agg #[.bool t774, .slice Ao35 t775.length co35, .int .i64 t778]] (by rfl) rfl rfl (by (try simp only [List.map_toArray, List.map_cons, List.map_nil]); first | done | rfl | (simp only [List.length_drop, List.length_take]; rfl)) ?_
      with_reducible refine (l05_just.calls kj6 t795 t796 t774 _ _ t775 t778 t797 _ ?side1 ?side2 A25.out).mono ?_
      (case side1 => repeat (first | exact (Kd.R_reads' HO777.out).2.2 | (with_reducible first | apply cA | apply cN | apply cD)))
      (case side2 => exact (Kd.R_reads' HO777.out).2.1)
      rintro e w48 ⟨rfl, hb⟩
      refine ⟨_, rfl, ?_⟩
      have n0_ := Aside0.mk (Kd.R_below (rr_ HO777) hb)
      have n1_ := Aside0.mk (Kd.V_below (by (with_reducible repeat (first | apply Kd.V_alloc | apply Kd.V_drewN | apply Kd.V_drew)); exact HO787.out) hb)
      have n2_ := Aside0.mk (Kd.V_below (by (with_reducible repeat (first | apply Kd.V_alloc | apply Kd.V_drewN | apply Kd.V_drew)); exact HO792.out) hb)
      have n3_ := kb_ BK770 hb
      have n4_ := kb_ BK771 hb
      have n5_ := kb_ BK780 hb
      have n6_ := bs_ HB hb
      clear HO777
      clear HO787
      clear HO792
      clear BK770
      clear BK771
      clear BK780
      clear HB
      have HO777 := n0_
      have HO787 := n1_
      have HO792 := n2_
      have BK770 := n3_
      have BK771 := n4_
      have BK780 := n5_
      have HB := n6_
      clear n0_ n1_ n2_ n3_ n4_ n5_ n6_
      (try clear hb)
      (try clear hb2)
      (try clear hk)
      (try clear hi)
      refine hK.out _ _ ⟨(blk_cell BK780.out 0).trans rfl, (blk_cell BK780.out 1).trans rfl, (blk_cell BK780.out 2).trans rfl⟩ (fun hHeld => ?_)
      clear hK K
      refine norm_ (a' := ?_) ?_ ?_
      rotate_left
      ·show Act.put _ (some 46) _ = _
       simp only [Act.put, List.setIfInBounds_toArray, List.set_cons_zero, List.set_cons_succ, i64_w, i32_w]
       rfl
      refine pure_ (i := 5) (N := some 14) (v := ?_) (a' := ?_) #[true, true, true, true, true, true] rfl rfl (by kernel_rfl) (fun _ _ _ h => h) (Or.inl ⟨by rfl, ?_⟩) ?_ ?_
      rotate_left
      ·intro w'
       go_simp
       with_reducible rfl
      rotate_left
      ·simp only [Act.put, List.setIfInBounds_toArray, List.set_cons_zero, List.set_cons_succ, i64_w, i32_w]
       rfl
      refine done_ (by kernel_rfl) ?_
      try go_wp2
      go_ret
      exact ⟨by first | rfl | (simp [errW_none, errW_some] <;> rfl) | (simp [*, errW_none, errW_some] <;> rfl), bl_ HB⟩
     ·replace c26 := Bool.eq_false_iff.mpr c26
      subst c26
      have H1 : (none) = some r := by rw [if_neg (show ¬ (false = true) by decide)] at H; exact H
      clear H
      have H := H1
      clear H1
      exact absurd H (by simp)
    ·rw [if_neg c23] at H
     have c23b0 : decide (0 ≤ t794) = false := decide_eq_false c23
     clear c23
     obtain rfl := Option.some.inj H
     have hnb49 := NB770_771.out
     have hnc49 := NB771_770.out
     have hcz50_0 : wc.cell? ⟨gb770, 0, none⟩ = some (.bool a2_0) := (blk_cell BK770.out 0).trans rfl
     have hcz50_1 : wc.cell? ⟨gb770, 1, none⟩ = some (.slice A2_1 l2_1.length c2_1) := (blk_cell BK770.out 1).trans rfl
     have hcz50_2 : wc.cell? ⟨gb770, 2, none⟩ = some (.int .i64 a2_2) := (blk_cell BK770.out 2).trans rfl
     have hfz50_0 := blk_frozen BK770.out 0
     have hfz50_1 := blk_frozen BK770.out 1
     have hfz50_2 := blk_frozen BK770.out 2
     have hcz51_0 : wc.cell? ⟨gb771, 0, none⟩ = some (.bool a3_0) := (blk_cell BK771.out 0).trans rfl
     have hcz51_1 : wc.cell? ⟨gb771, 1, none⟩ = some (.slice A3_1 l3_1.length c3_1) := (blk_cell BK771.out 1).trans rfl
     have hcz51_2 : wc.cell? ⟨gb771, 2, none⟩ = some (.int .i64 a3_2) := (blk_cell BK771.out 2).trans rfl
     have hfz51_0 := blk_frozen BK771.out 0
     have hfz51_1 := blk_frozen BK771.out 1
     have hfz51_2 := blk_frozen BK771.out 2
     try go_wp2_with (first | ((with_reducible refine gate_callee (f := 35) rfl ?_); refine goesM (some 28) Try.func35 #[.agg #[.bool a2_0, .slice A2_1 l2_1.length c2_1, .int .i64 a2_2], .agg #[.bool a3_0, .slice A3_1 l3_1.length c3_1, .int .i64 a3_2]] ?_; (with_reducible refine (r03_Add.calls kj6 a2_0 _ _ l2_1 a2_2 a3_0 _ _ l3_1 a3_2 t774 t775 t778 t779 _ ?side1 ?side2 ?side3 ?side4 A17.out).mono ?_); (case side1 => repeat (first | exact (Kd.C_below HR2_1.out HB.out) | (with_reducible first | apply cA | apply cN | apply cD))); (case side2 => exact HC2_1.out); (case side3 => repeat (first | exact (Kd.C_below HR3_1.out HB.out) | (with_reducible first | apply cA | apply cN | apply cD))); (case side4 => exact HC3_1.out); rintro e w52 ⟨v776, rfl, ho0, hb⟩; refine ⟨_, rfl, ?_⟩; have n0_ := Aside0.mk (Kd.R_lower ho0 (below_size (bl_ HB))); have n1_ := kb_ BK770 hb; have n2_ := kb_ BK771 hb; have n3_ := bs_ HB hb; clear BK770; clear BK771; clear HB; have HO777 := n0_; have BK770 := n1_; have BK771 := n2_; have HB := n3_; clear n0_ n1_ n2_ n3_; (try clear hb); (try clear hb2); (try clear hk); (try clear hi); (try clear ho0)) | ((with_reducible refine gate_dst (N := 11) rfl ?_); refine box_event ?hg (N := 11) ?hd (cs := #[.bool false, .slice none 0 0, .int .i64 0]) (t := 43) ?hr ?_; (case hd => rfl); (case hg => rfl); (case hr => first | (go_simp; done) | (go_simp; rfl)); intro gb780 hg w53 hbox hb; have n0_ := Aside0.mk (Kd.R_below (rr_ HO777) hb); have n1_ := kb_ BK770 hb; have n2_ := kb_ BK771 hb; have n3_ := bs_ HB hb; have n4_ := Aside0.mk (hbox); have n5_ := ge_ HB hg; have n6_ := ge_ HB hg; have n7_ := nlt_ BK770 hg; have n8_ := ngt_ BK770 hg; have n9_ := nlt_ BK771 hg; have n10_ := ngt_ BK771 hg; clear HO777; clear BK770; clear BK771; clear HB; have HO777 := n0_; have BK770 := n1_; have BK771 := n2_; have HB := n3_; have BK780 := n4_; have GW780 := n5_; have GE780 := n6_; have NB770_780 := n7_; have NB780_770 := n8_; have NB771_780 := n9_; have NB780_771 := n10_; clear n0_ n1_ n2_ n3_ n4_ n5_ n6_ n7_ n8_ n9_ n10_; clear hb hbox hg; have hnb54 := NB780_770.out; have hnc54 := NB770_780.out; have hnb55 := NB780_771.out; have hnc55 := NB771_780.out; have hcz56_0 : w53.cell? ⟨gb780, 0, none⟩ = some (.bool false) := (blk_cell BK780.out 0).trans rfl; have hcz56_1 : w53.cell? ⟨gb780, 1, none⟩ = some (.slice none 0 0) := (blk_cell BK780.out 1).trans rfl; have hcz56_2 : w53.cell? ⟨gb780, 2, none⟩ = some (.int .i64 0) := (blk_cell BK780.out 2).trans rfl; have hfz56_0 := blk_frozen BK780.out 0; have hfz56_1 := blk_frozen BK780.out 1; have hfz56_2 := blk_frozen BK780.out 2; obtain ⟨Ao57, co57, eo57⟩ := Kd.R_slice HO777.out; subst eo57))
     have n0_ : Aside0 (Kd.R (Kd.int .u32) 72 (((w53.setCell ⟨gb780, 0, none⟩ (.bool t774)).setCell ⟨gb780, 1, none⟩ (.slice Ao57 t775.length co57)).setCell ⟨gb780, 2, none⟩ (.int .i64 t778)) w.heap.size (fun _ => True) (.slice Ao57 t775.length co57) t775) := ⟨by (with_reducible repeat (first | apply rA | apply rN | apply rD)); exact Kd.R_mono (Kd.R_far (p := ⟨gb780, 2, none⟩) (Kd.R_far (p := ⟨gb780, 1, none⟩) (Kd.R_far (p := ⟨gb780, 0, none⟩) (Kd.R_types HO777.out BK780.out (by decide)) (fun _ hk => hk.2) (.bool t774)) (fun _ hk => hk.2) (.slice Ao57 t775.length co57)) (fun _ hk => hk.2) (.int .i64 t778)) (fun _ hk => trivial)⟩
     have n1_ : Aside0 ((((w53.setCell ⟨gb780, 0, none⟩ (.bool t774)).setCell ⟨gb780, 1, none⟩ (.slice Ao57 t775.length co57)).setCell ⟨gb780, 2, none⟩ (.int .i64 t778)).heap[gb770]? = some (.cells #[.bool a2_0, .slice A2_1 l2_1.length c2_1, .int .i64 a2_2] 43 (0, 0))) := ⟨by (with_reducible repeat (first | apply bN | apply bD | apply bA)); refine blk_far ?_ NB770_780.out _; (with_reducible repeat (first | apply bN | apply bD | apply bA)); refine blk_far ?_ NB770_780.out _; (with_reducible repeat (first | apply bN | apply bD | apply bA)); refine blk_far ?_ NB770_780.out _; exact bk_ BK770⟩
     have n2_ : Aside0 ((((w53.setCell ⟨gb780, 0, none⟩ (.bool t774)).setCell ⟨gb780, 1, none⟩ (.slice Ao57 t775.length co57)).setCell ⟨gb780, 2, none⟩ (.int .i64 t778)).heap[gb771]? = some (.cells #[.bool a3_0, .slice A3_1 l3_1.length c3_1, .int .i64 a3_2] 43 (0, 0))) := ⟨by (with_reducible repeat (first | apply bN | apply bD | apply bA)); refine blk_far ?_ NB771_780.out _; (with_reducible repeat (first | apply bN | apply bD | apply bA)); refine blk_far ?_ NB771_780.out _; (with_reducible repeat (first | apply bN | apply bD | apply bA)); refine blk_far ?_ NB771_780.out _; exact bk_ BK771⟩
     have n3_ : Aside0 ((((w53.setCell ⟨gb780, 0, none⟩ (.bool t774)).setCell ⟨gb780, 1, none⟩ (.slice Ao57 t775.length co57)).setCell ⟨gb780, 2, none⟩ (.int .i64 t778)).heap[gb780]? = some (.cells #[.bool t774, .slice Ao57 t775.length co57, .int .i64 t778] 43 (0, 0))) := ⟨by (with_reducible repeat (first | apply bN | apply bD | apply bA)); refine blk_put (cs := #[.bool t774, .slice Ao57 t775.length co57, .int .i64 0]) ?_ 2 _ rfl; (with_reducible repeat (first | apply bN | apply bD | apply bA)); refine blk_put (cs := #[.bool t774, .slice none 0 0, .int .i64 0]) ?_ 1 _ rfl; (with_reducible repeat (first | apply bN | apply bD | apply bA)); refine blk_put (cs := #[.bool false, .slice none 0 0, .int .i64 0]) ?_ 0 _ rfl; exact bk_ BK780⟩
     have n4_ : Aside0 (Below w.heap.size w (((w53.setCell ⟨gb780, 0, none⟩ (.bool t774)).setCell ⟨gb780, 1, none⟩ (.slice Ao57 t775.length co57)).setCell ⟨gb780, 2, none⟩ (.int .i64 t778))) := ⟨bl_ HB⟩
     (try clear HO777)
     (try clear BK770)
     (try clear BK771)
     (try clear BK780)
     (try clear HB)
     generalize (((w53.setCell ⟨gb780, 0, none⟩ (.bool t774)).setCell ⟨gb780, 1, none⟩ (.slice Ao57 t775.length co57)).setCell ⟨gb780, 2, none⟩ (.int .i64 t778)) = w58 at n0_ n1_ n2_ n3_ n4_ ⊢
     have HO777 := n0_
     have BK770 := n1_
     have BK771 := n2_
     have BK780 := n3_
     have HB := n4_
     clear n0_ n1_ n2_ n3_ n4_
     have n0_ := Aside0.mk (Kd.R_drew HO777.out)
     have n1_ := Aside0.mk (blk_drew BK770.out)
     have n2_ := Aside0.mk (blk_drew BK771.out)
     have n3_ := Aside0.mk (blk_drew BK780.out)
     have n4_ := Aside0.mk (below_drew1 HB.out)
     clear HO777
     clear BK770
     clear BK771
     clear BK780
     clear HB
     have HO777 := n0_
     have BK770 := n1_
     have BK771 := n2_
     have BK780 := n3_
     have HB := n4_
     clear n0_ n1_ n2_ n3_ n4_
     refine start_ (n := 6) (S := fun w' => w'.cell? ⟨gb780, 0, none⟩ = some (.bool t774) ∧ w'.cell? ⟨gb780, 1, none⟩ = some (.slice Ao57 t775.length co57) ∧ w'.cell? ⟨gb780, 2, none⟩ = some (.int .i64 t778)) (ds := []) #[false, false, false, false, false, false] (by kernel_rfl) rfl rfl ⟨(blk_cell BK780.out 0).trans rfl, (blk_cell BK780.out 1).trans rfl, (blk_cell BK780.out 2).trans rfl⟩ (fun hHeld => ?_)
     generalize w58.drew = w59 at HO777 BK770 BK771 BK780 HB hHeld ⊢
     refine pure_ (i := 0) (N := some 31) (v := ?_) (a' := ?_) #[true, false, false, false, false, false] rfl rfl (by kernel_rfl) (fun _ _ _ h => h) (Or.inl ⟨by rfl, ?_⟩) ?_ ?_
     rotate_left
     ·intro w'
      go_simp
      with_reducible rfl
     rotate_left
     ·simp only [Act.put, List.setIfInBounds_toArray, List.set_cons_zero, List.set_cons_succ, i64_w, i32_w]
      rfl
     refine pure_ (i := 1) (N := some 32) (v := ?_) (a' := ?_) #[true, true, false, false, false, false] rfl rfl (by kernel_rfl) (fun _ _ _ h => h) (Or.inl ⟨by rfl, ?_⟩) ?_ ?_
     rotate_left
     ·intro w'
      go_simp
      with_reducible rfl
     rotate_left
     ·simp only [Act.put, List.setIfInBounds_toArray, List.set_cons_zero, List.set_cons_succ, i64_w, i32_w]
      rfl
     refine take_ (i := 3) (N := some 34) (v := ?_) (a' := ?_) #[true, true, false, true, false, false] rfl rfl (by kernel_rfl) (fun _ _ _ h => h) (Or.inl ⟨by rfl, ?_⟩) hHeld ?_ ?_
     rotate_left
     ·rintro w' ⟨s0, s1, s2⟩
      go_simp
      with_reducible rfl
     rotate_left
     ·simp only [Act.put, List.setIfInBounds_toArray, List.set_cons_zero, List.set_cons_succ, i64_w, i32_w]
      rfl
     refine one_ (i := 2) (N := some 33) #[true, true, true, true, false, false] rfl rfl (by kernel_rfl) (by decide) (fun K hK => ?_)
     refine goes_ Try.func12 (by kernel_rfl) rfl #[.float .f64 a0, .float .f64 a1] (by rfl) rfl rfl (by (try simp only [List.map_toArray, List.map_cons, List.map_nil]); first | done | rfl | (simp only [List.length_drop, List.length_take]; rfl)) ?_
     with_reducible refine (pair_Sum.calls a0 a1 t781 t782 _ A18.out).mono ?_
     rintro e w60 ⟨rfl, hb⟩
     refine ⟨_, rfl, ?_⟩
     have n0_ := Aside0.mk (Kd.R_below (rr_ HO777) hb)
     have n1_ := kb_ BK770 hb
     have n2_ := kb_ BK771 hb
     have n3_ := kb_ BK780 hb
     have n4_ := bs_ HB hb
     clear HO777
     clear BK770
     clear BK771
     clear BK780
     clear HB
     have HO777 := n0_
     have BK770 := n1_
     have BK771 := n2_
     have BK780 := n3_
     have HB := n4_
     clear n0_ n1_ n2_ n3_ n4_
     (try clear hb)
     (try clear hb2)
     (try clear hk)
     (try clear hi)
     refine hK.out _ _ ⟨(blk_cell BK780.out 0).trans rfl, (blk_cell BK780.out 1).trans rfl, (blk_cell BK780.out 2).trans rfl⟩ (fun hHeld => ?_)
     clear hK K
     refine norm_ (a' := ?_) ?_ ?_
     rotate_left
     ·show Act.put _ (some 33) _ = _
      simp only [Act.put, List.setIfInBounds_toArray, List.set_cons_zero, List.set_cons_succ, i64_w, i32_w]
      rfl
     refine one_ (i := 4) (N := some 35) #[true, true, true, true, true, false] rfl rfl (by kernel_rfl) (by decide) (fun K hK => ?_)
     refine goes_ Try.func52 (by kernel_rfl) rfl #[.agg #[.float .f64 t781, .float .f64 t782], .agg #[.bool t774, .slice Ao57 t775.length co57, .int .i64 t778]] (by rfl) rfl rfl (by (try simp only [List.map_toArray, List.map_cons, List.map_nil]); first | done | rfl | (simp only [List.length_drop, List.length_take]; rfl)) ?_
     with_reducible refine (l05_just.calls kj6 t781 t782 t774 _ _ t775 t778 t783 _ ?side1 ?side2 A19.out).mono ?_
     (case side1 => repeat (first | exact (Kd.R_reads' HO777.out).2.2 | (with_reducible first | apply cA | apply cN | apply cD)))
     (case side2 => exact (Kd.R_reads' HO777.out).2.1)
     rintro e w61 ⟨rfl, hb⟩
     refine ⟨_, rfl, ?_⟩
     have n0_ := Aside0.mk (Kd.R_below (rr_ HO777) hb)
     have n1_ := kb_ BK770 hb
     have n2_ := kb_ BK771 hb
     have n3_ := kb_ BK780 hb
     have n4_ := bs_ HB hb
     clear HO777
     clear BK770
     clear BK771
     clear BK780
     clear HB
     have HO777 := n0_
     have BK770 := n1_
     have BK771 := n2_
     have BK780 := n3_
     have HB := n4_
     clear n0_ n1_ n2_ n3_ n4_
     (try clear hb)
     (try clear hb2)
     (try clear hk)
     (try clear hi)
     refine hK.out _ _ ⟨(blk_cell BK780.out 0).trans rfl, (blk_cell BK780.out 1).trans rfl, (blk_cell BK780.out 2).trans rfl⟩ (fun hHeld => ?_)
     clear hK K
     refine norm_ (a' := ?_) ?_ ?_
     rotate_left
     ·show Act.put _ (some 35) _ = _
      simp only [Act.put, List.setIfInBounds_toArray, List.set_cons_zero, List.set_cons_succ, i64_w, i32_w]
      rfl
     refine pure_ (i := 5) (N := some 13) (v := ?_) (a' := ?_) #[true, true, true, true, true, true] rfl rfl (by kernel_rfl) (fun _ _ _ h => h) (Or.inl ⟨by rfl, ?_⟩) ?_ ?_
     rotate_left
     ·intro w'
      go_simp
      with_reducible rfl
     rotate_left
     ·simp only [Act.put, List.setIfInBounds_toArray, List.set_cons_zero, List.set_cons_succ, i64_w, i32_w]
      rfl
     refine done_ (by kernel_rfl) ?_
     try go_wp2
     have n0_ := Aside0.mk (Kd.R_drew HO777.out)
     have n1_ := Aside0.mk (blk_drew BK770.out)
     have n2_ := Aside0.mk (blk_drew BK771.out)
     have n3_ := Aside0.mk (blk_drew BK780.out)
     have n4_ := Aside0.mk (below_drew1 HB.out)
     clear HO777
     clear BK770
     clear BK771
     clear BK780
     clear HB
     have HO777 := n0_
     have BK770 := n1_
     have BK771 := n2_
     have BK780 := n3_
     have HB := n4_
     clear n0_ n1_ n2_ n3_ n4_
     refine start_ (n := 6) (S := fun w' => w'.cell? ⟨gb770, 0, none⟩ = some (.bool a2_0) ∧ w'.cell? ⟨gb770, 1, none⟩ = some (.slice A2_1 l2_1.length c2_1) ∧ w'.cell? ⟨gb770, 2, none⟩ = some (.int .i64 a2_2) ∧ w'.cell? ⟨gb771, 0, none⟩ = some (.bool a3_0) ∧ w'.cell? ⟨gb771, 1, none⟩ = some (.slice A3_1 l3_1.length c3_1) ∧ w'.cell? ⟨gb771, 2, none⟩ = some (.int .i64 a3_2)) (ds := []) #[false, false, false, false, false, false] (by kernel_rfl) rfl rfl ⟨(blk_cell BK770.out 0).trans rfl, (blk_cell BK770.out 1).trans rfl, (blk_cell BK770.out 2).trans rfl, (blk_cell BK771.out 0).trans rfl, (blk_cell BK771.out 1).trans rfl, (blk_cell BK771.out 2).trans rfl⟩ (fun hHeld => ?_)
     generalize w61.drew = w62 at HO777 BK770 BK771 BK780 HB hHeld ⊢
     refine take_ (i := 0) (N := some 36) (v := ?_) (a' := ?_) #[true, false, false, false, false, false] rfl rfl (by kernel_rfl) (fun _ _ _ h => h) (Or.inl ⟨by rfl, ?_⟩) hHeld ?_ ?_
     rotate_left
     ·rintro w' ⟨s0, s1, s2, s3, s4, s5⟩
      go_simp
      with_reducible rfl
     rotate_left
     ·simp only [Act.put, List.setIfInBounds_toArray, List.set_cons_zero, List.set_cons_succ, i64_w, i32_w]
      rfl
     refine take_ (i := 2) (N := some 38) (v := ?_) (a' := ?_) #[true, false, true, false, false, false] rfl rfl (by kernel_rfl) (fun _ _ _ h => h) (Or.inl ⟨by rfl, ?_⟩) hHeld ?_ ?_
     rotate_left
     ·rintro w' ⟨s0, s1, s2, s3, s4, s5⟩
      go_simp
      with_reducible rfl
     rotate_left
     ·simp only [Act.put, List.setIfInBounds_toArray, List.set_cons_zero, List.set_cons_succ, i64_w, i32_w]
      rfl
     refine one_ (i := 1) (N := some 37) #[true, true, true, false, false, false] rfl rfl (by kernel_rfl) (by decide) (fun K hK => ?_)
     refine goes_ Try.func54 (by kernel_rfl) rfl #[.agg #[.bool a2_0, .slice A2_1 l2_1.length c2_1, .int .i64 a2_2]] (by rfl) rfl rfl (by (try simp only [List.map_toArray, List.map_cons, List.map_nil]); first | done | rfl | (simp only [List.length_drop, List.length_take]; rfl)) ?_
     with_reducible refine (l05_size.calls a2_0 (fun k_ => k_ < w.heap.size) _ _ l2_1 a2_2 t784 t785 t788 _ ?side1 A20.out).mono ?_
     (case side1 => exact Kd.V_mk HC2_1.out (Kd.F_below (Kd.C_F (Kd.heap_int .u32) HR2_1.out) (bl_ HB)))
     rintro e w63 ⟨v786, rfl, ho0, hb⟩
     refine ⟨_, rfl, ?_⟩
     have n0_ := Aside0.mk (Kd.R_below (rr_ HO777) hb)
     have n1_ := Aside0.mk (Kd.V_lower (Kd.V_mono (ok' := fun k_ => some k_ ≠ (.slice Ao57 t775.length co57 : Value).ownBlock ∧ k_ ≠ gb770 ∧ k_ ≠ gb771 ∧ k_ ≠ gb780) ho0 (fun k_ hk_ => ⟨Or.elim hk_ (fun hs_ => fun e_ => Nat.not_le.2 hs_ (Kd.R_base HO777.out k_ e_.symm)) (fun hn_ => (Kd.fresh' (Kd.R_lt (rr_ HO777)) k_ hn_)), Or.elim hk_ (fun hs_ => fun e_ => Nat.not_le.2 hs_ (by rw [e_]; exact GW770.out)) (fun hn_ => (Kd.freshB (g := gb770) (o := .cells #[.bool a2_0, .slice A2_1 l2_1.length c2_1, .int .i64 a2_2] 43 (0, 0)) (bk_ BK770) k_ hn_)), Or.elim hk_ (fun hs_ => fun e_ => Nat.not_le.2 hs_ (by rw [e_]; exact GW771.out)) (fun hn_ => (Kd.freshB (g := gb771) (o := .cells #[.bool a3_0, .slice A3_1 l3_1.length c3_1, .int .i64 a3_2] 43 (0, 0)) (bk_ BK771) k_ hn_)), Or.elim hk_ (fun hs_ => fun e_ => Nat.not_le.2 hs_ (by rw [e_]; exact GW780.out)) (fun hn_ => (Kd.freshB (g := gb780) (o := .cells #[.bool t774, .slice Ao57 t775.length co57, .int .i64 t778] 43 (0, 0)) (bk_ BK780) k_ hn_))⟩)) (below_size (bl_ HB)))
     have n2_ := kb_ BK770 hb
     have n3_ := kb_ BK771 hb
     have n4_ := kb_ BK780 hb
     have n5_ := bs_ HB hb
     clear HO777
     clear BK770
     clear BK771
     clear BK780
     clear HB
     have HO777 := n0_
     have HO787 := n1_
     have BK770 := n2_
     have BK771 := n3_
     have BK780 := n4_
     have HB := n5_
     clear n0_ n1_ n2_ n3_ n4_ n5_
     (try clear hb)
     (try clear hb2)
     (try clear hk)
     (try clear hi)
     (try clear ho0)
     refine hK.out _ _ ⟨(blk_cell BK770.out 0).trans rfl, (blk_cell BK770.out 1).trans rfl, (blk_cell BK770.out 2).trans rfl, (blk_cell BK771.out 0).trans rfl, (blk_cell BK771.out 1).trans rfl, (blk_cell BK771.out 2).trans rfl⟩ (fun hHeld => ?_)
     clear hK K
     refine norm_ (a' := ?_) ?_ ?_
     rotate_left
     ·show Act.put _ (some 37) _ = _
      simp only [Act.put, List.setIfInBounds_toArray, List.set_cons_zero, List.set_cons_succ, i64_w, i32_w]
      rfl
     refine one_ (i := 3) (N := some 39) #[true, true, true, true, false, false] rfl rfl (by kernel_rfl) (by decide) (fun K hK => ?_)
     refine goes_ Try.func54 (by kernel_rfl) rfl #[.agg #[.bool a3_0, .slice A3_1 l3_1.length c3_1, .int .i64 a3_2]] (by rfl) rfl rfl (by (try simp only [List.map_toArray, List.map_cons, List.map_nil]); first | done | rfl | (simp only [List.length_drop, List.length_take]; rfl)) ?_
     with_reducible refine (l05_size.calls a3_0 (fun k_ => k_ < w.heap.size) _ _ l3_1 a3_2 t789 t790 t793 _ ?side1 A21.out).mono ?_
     (case side1 => exact Kd.V_mk HC3_1.out (Kd.F_below (Kd.C_F (Kd.heap_int .u32) HR3_1.out) (bl_ HB)))
     rintro e w64 ⟨v791, rfl, ho0, hb⟩
     refine ⟨_, rfl, ?_⟩
     have n0_ := Aside0.mk (Kd.R_below (rr_ HO777) hb)
     have n1_ := Aside0.mk (Kd.V_below (by (with_reducible repeat (first | apply Kd.V_alloc | apply Kd.V_drewN | apply Kd.V_drew)); exact HO787.out) hb)
     have n2_ := Aside0.mk (Kd.V_lower (Kd.V_mono (ok' := fun k_ => some k_ ≠ (.slice Ao57 t775.length co57 : Value).ownBlock ∧ k_ ≠ gb770 ∧ k_ ≠ gb771 ∧ k_ ≠ gb780) ho0 (fun k_ hk_ => ⟨Or.elim hk_ (fun hs_ => fun e_ => Nat.not_le.2 hs_ (Kd.R_base HO777.out k_ e_.symm)) (fun hn_ => (Kd.fresh' (Kd.R_lt (rr_ HO777)) k_ hn_)), Or.elim hk_ (fun hs_ => fun e_ => Nat.not_le.2 hs_ (by rw [e_]; exact GW770.out)) (fun hn_ => (Kd.freshB (g := gb770) (o := .cells #[.bool a2_0, .slice A2_1 l2_1.length c2_1, .int .i64 a2_2] 43 (0, 0)) (bk_ BK770) k_ hn_)), Or.elim hk_ (fun hs_ => fun e_ => Nat.not_le.2 hs_ (by rw [e_]; exact GW771.out)) (fun hn_ => (Kd.freshB (g := gb771) (o := .cells #[.bool a3_0, .slice A3_1 l3_1.length c3_1, .int .i64 a3_2] 43 (0, 0)) (bk_ BK771) k_ hn_)), Or.elim hk_ (fun hs_ => fun e_ => Nat.not_le.2 hs_ (by rw [e_]; exact GW780.out)) (fun hn_ => (Kd.freshB (g := gb780) (o := .cells #[.bool t774, .slice Ao57 t775.length co57, .int .i64 t778] 43 (0, 0)) (bk_ BK780) k_ hn_))⟩)) (below_size (bl_ HB)))
     have n3_ := kb_ BK770 hb
     have n4_ := kb_ BK771 hb
     have n5_ := kb_ BK780 hb
     have n6_ := bs_ HB hb
     clear HO777
     clear HO787
     clear BK770
     clear BK771
     clear BK780
     clear HB
     have HO777 := n0_
     have HO787 := n1_
     have HO792 := n2_
     have BK770 := n3_
     have BK771 := n4_
     have BK780 := n5_
     have HB := n6_
     clear n0_ n1_ n2_ n3_ n4_ n5_ n6_
     (try clear hb)
     (try clear hb2)
     (try clear hk)
     (try clear hi)
     (try clear ho0)
     obtain ⟨Ao65, co65, eo65⟩ := Kd.V_slice HO787.out
     (first | subst eo65 | (injection eo65 with f1_ f2_ f3_; have f4_ := f1_.symm; have f5_ := f3_.symm; clear f1_ f2_ f3_; subst f4_; subst f5_))
     obtain ⟨Ao66, co66, eo66⟩ := Kd.V_slice HO792.out
     (first | subst eo66 | (injection eo66 with f1_ f2_ f3_; have f4_ := f1_.symm; have f5_ := f3_.symm; clear f1_ f2_ f3_; subst f4_; subst f5_))
     refine hK.out _ _ ⟨(blk_cell BK770.out 0).trans rfl, (blk_cell BK770.out 1).trans rfl, (blk_cell BK770.out 2).trans rfl, (blk_cell BK771.out 0).trans rfl, (blk_cell BK771.out 1).trans rfl, (blk_cell BK771.out 2).trans rfl⟩ (fun hHeld => ?_)
     clear hK K
     refine norm_ (a' := ?_) ?_ ?_
     rotate_left
     ·show Act.put _ (some 39) _ = _
      simp only [Act.put, List.setIfInBounds_toArray, List.set_cons_zero, List.set_cons_succ, i64_w, i32_w]
      rfl
     refine one_ (i := 4) (N := some 40) #[true, true, true, true, true, false] rfl rfl (by kernel_rfl) (by decide) (fun K hK => ?_)
     refine goes_ Try.func53 (by kernel_rfl) rfl #[.agg #[.bool t784, .slice Ao65 t785.length co65, .int .i64 t788], .agg #[.bool t789, .slice Ao66 t790.length co66, .int .i64 t793]] (by rfl) rfl rfl (by (try simp only [List.map_toArray, List.map_cons, List.map_nil]); first | done | rfl | (simp only [List.length_drop, List.length_take]; rfl)) ?_
     with_reducible refine (r03_Cmp.calls kj6 t784 _ _ t785 t788 t789 _ _ t790 t793 t794 _ ?side1 ?side2 ?side3 ?side4 A22.out).mono ?_
     (case side1 => repeat (first | exact (Kd.V_reads' HO787.out).2.2 | (with_reducible first | apply cA | apply cN | apply cD)))
     (case side2 => exact (Kd.V_reads' HO787.out).2.1)
     (case side3 => repeat (first | exact (Kd.V_reads' HO792.out).2.2 | (with_reducible first | apply cA | apply cN | apply cD)))
     (case side4 => exact (Kd.V_reads' HO792.out).2.1)
     rintro e w67 ⟨rfl, hb⟩
     refine ⟨_, rfl, ?_⟩
     have n0_ := Aside0.mk (Kd.R_below (rr_ HO777) hb)
     have n1_ := Aside0.mk (Kd.V_below (by (with_reducible repeat (first | apply Kd.V_alloc | apply Kd.V_drewN | apply Kd.V_drew)); exact HO787.out) hb)
     have n2_ := Aside0.mk (Kd.V_below (by (with_reducible repeat (first | apply Kd.V_alloc | apply Kd.V_drewN | apply Kd.V_drew)); exact HO792.out) hb)
     have n3_ := kb_ BK770 hb
     have n4_ := kb_ BK771 hb
     have n5_ := kb_ BK780 hb
     have n6_ := bs_ HB hb
     clear HO777
     clear HO787
     clear HO792
     clear BK770
     clear BK771
     clear BK780
     clear HB
     have HO777 := n0_
     have HO787 := n1_
     have HO792 := n2_
     have BK770 := n3_
     have BK771 := n4_
     have BK780 := n5_
     have HB := n6_
     clear n0_ n1_ n2_ n3_ n4_ n5_ n6_
     (try clear hb)
     (try clear hb2)
     (try clear hk)
     (try clear hi)
     refine hK.out _ _ ⟨(blk_cell BK770.out 0).trans rfl, (blk_cell BK770.out 1).trans rfl, (blk_cell BK770.out 2).trans rfl, (blk_cell BK771.out 0).trans rfl, (blk_cell BK771.out 1).trans rfl, (blk_cell BK771.out 2).trans rfl⟩ (fun hHeld => ?_)
     clear hK K
     refine norm_ (a' := ?_) ?_ ?_
     rotate_left
     ·show Act.put _ (some 40) _ = _
      simp only [Act.put, List.setIfInBounds_toArray, List.set_cons_zero, List.set_cons_succ, i64_w, i32_w]
      rfl
     refine pure_ (i := 5) (N := some 41) (v := ?_) (a' := ?_) #[true, true, true, true, true, true] rfl rfl (by kernel_rfl) (fun _ _ _ h => h) (Or.inl ⟨by rfl, ?_⟩) ?_ ?_
     rotate_left
     ·intro w'
      go_simp
      with_reducible rfl
     rotate_left
     ·simp only [Act.put, List.setIfInBounds_toArray, List.set_cons_zero, List.set_cons_succ, i64_w, i32_w]
      rfl
     refine done_ (by kernel_rfl) ?_
     try go_wp2
     go_ret
     exact ⟨by first | rfl | (simp [errW_none, errW_some] <;> rfl) | (simp [*, errW_none, errW_some] <;> rfl), bl_ HB⟩

end Go.Proofs.Ytdemanikmaafeaa.Pr
-- written by this session's own program (wip/fprint.py), which widens the kit's print by floats
namespace Go.Proofs.Ytdemanikmaafeaa.Pr
open Go.RowKit Go.Proofs.YtdemanikmaafeaaW.PrintWords Go.Proofs.YtdemanikmaafeaaW.PrintLast Go.Proofs.YtdemanikmaafeaaW.PrintMore
attribute [local go_sem] max2_int min2_int max_two min_two max_three min_three max_four min_four   -- for this text's walks alone
set_option linter.unusedVariables false
set_option linter.unusedSimpArgs false

/-! ### l05_halved: function 31 -/
def l05_halved.f (k : Nat) (a0 : Nat) (a1_0 : Bool) (l1_1 : List Int) (a1_2 : Int) : Option (Bool) := (l05_within.f k a1_0 l1_1 a1_2 995).bind fun t799 => (if t799 = true then ((pair_Halves.f a0).bind fun bt800 => ((l05_just.f k bt800.1 bt800.2 a1_0 l1_1 a1_2).bind fun t803 => ((l05_finite.f k bt800.1).bind fun bt804 => ((l05_finite.f k bt800.2).bind fun bt811 => (if t803 = true then (if bt804.2.2.2 = true then (if bt811.2.2.2 = true then ((r02_Len.f k bt804.2.1).bind fun t818 => (if t818 ≤ 26 then ((r02_Len.f k bt811.2.1).bind fun t819 => (some (decide (t819 ≤ 26)))) else (none))) else (none)) else (none)) else (none)))))) else (some true))
theorem l05_halved.mono : ∀ a0 a1 a2 a3 k, LeO (l05_halved.f k a0 a1 a2 a3) (l05_halved.f (k + 1) a0 a1 a2 a3) := by
 intro a0 a1 a2 a3 k
 unfold l05_halved.f
 repeat' first
   | (with_reducible exact l05_finite.mono _ _)
   | (with_reducible exact l05_just.mono _ _ _ _ _ _)
   | (with_reducible exact l05_within.mono _ _ _ _ _)
   | (with_reducible exact r02_Len.mono _ _)
   | (with_reducible exact LeO.refl _)
   | (with_reducible exact LeO.none _)
   | (with_reducible refine LeO.ite ?_ ?_)
   | (with_reducible refine LeO.bind ?_ (fun _ => ?_))
   | exact l05_finite.mono _ _
   | exact l05_just.mono _ _ _ _ _ _
   | exact l05_within.mono _ _ _ _ _
   | exact r02_Len.mono _ _
   | exact LeO.none _
   | refine LeO.ite ?_ ?_
   | refine LeO.bind ?_ (fun _ => ?_)
set_option maxHeartbeats 3000000 in
set_option maxRecDepth 100000 in
theorem l05_halved.calls (k : Nat) (a0 : Nat) (a1_0 : Bool) (A1_1 : Option Addr) (c1_1 : Nat) (l1_1 : List Int) (a1_2 : Int) (r : Bool) (w : World) (hr1_1 : Kd.C (Kd.int .u32) w A1_1 l1_1.length l1_1) (hc1_1 : l1_1.length ≤ c1_1) (h : l05_halved.f k a0 a1_0 l1_1 a1_2 = some r) :
  Calls Try.prog 31 #[.float .f64 a0, .agg #[.bool a1_0, .slice A1_1 l1_1.length c1_1, .int .i64 a1_2]] w fun e w' => e = .returned (.bool r) ∧ Below w.heap.size w w' := by
 have hu43 := Try.underlying43
 have hu30 := Try.underlying30
 have HR1_1 := Aside0.mk hr1_1
 have HC1_1 := Aside0.mk hc1_1
 clear hr1_1 hc1_1
 have HB := Aside0.mk (Below.refl w.heap.size w)
 have H : ((l05_within.f k a1_0 l1_1 a1_2 995).bind fun t799 => (if t799 = true then ((pair_Halves.f a0).bind fun bt800 => ((l05_just.f k bt800.1 bt800.2 a1_0 l1_1 a1_2).bind fun t803 => ((l05_finite.f k bt800.1).bind fun bt804 => ((l05_finite.f k bt800.2).bind fun bt811 => (if t803 = true then (if bt804.2.2.2 = true then (if bt811.2.2.2 = true then ((r02_Len.f k bt804.2.1).bind fun t818 => (if t818 ≤ 26 then ((r02_Len.f k bt811.2.1).bind fun t819 => (some (decide (t819 ≤ 26)))) else (none))) else (none)) else (none)) else (none)))))) else (some true))) = some r := h
 clear h
 obtain ⟨t799, A3, H⟩ := ob_ H
 try dsimp only at H
 by_cases c4 : t799 = true
 ·subst c4
  have H1 : ((pair_Halves.f a0).bind fun bt800 => ((l05_just.f k bt800.1 bt800.2 a1_0 l1_1 a1_2).bind fun t803 => ((l05_finite.f k bt800.1).bind fun bt804 => ((l05_finite.f k bt800.2).bind fun bt811 => (if t803 = true then (if bt804.2.2.2 = true then (if bt811.2.2.2 = true then ((r02_Len.f k bt804.2.1).bind fun t818 => (if t818 ≤ 26 then ((r02_Len.f k bt811.2.1).bind fun t819 => (some (decide (t819 ≤ 26)))) else (none))) else (none)) else (none)) else (none)))))) = some r := by rw [if_pos rfl] at H; exact H
  clear H
  have H := H1
  clear H1
  obtain ⟨⟨t800, t801⟩, A5, H⟩ := ob_ H
  try dsimp only at H
  obtain ⟨t803, A6, H⟩ := ob_ H
  try dsimp only at H
  obtain ⟨⟨t804, t805, t808, t809⟩, A7, H⟩ := ob_ H
  try dsimp only at H
  obtain ⟨⟨t811, t812, t815, t816⟩, A8, H⟩ := ob_ H
  try dsimp only at H
  by_cases c9 : t803 = true
  ·subst c9
   have H1 : (if t809 = true then (if t816 = true then ((r02_Len.f k t805).bind fun t818 => (if t818 ≤ 26 then ((r02_Len.f k t812).bind fun t819 => (some (decide (t819 ≤ 26)))) else (none))) else (none)) else (none)) = some r := by rw [if_pos rfl] at H; exact H
   clear H
   have H := H1
   clear H1
   by_cases c10 : t809 = true
   ·subst c10
    have H1 : (if t816 = true then ((r02_Len.f k t805).bind fun t818 => (if t818 ≤ 26 then ((r02_Len.f k t812).bind fun t819 => (some (decide (t819 ≤ 26)))) else (none))) else (none)) = some r := by rw [if_pos rfl] at H; exact H
    clear H
    have H := H1
    clear H1
    by_cases c11 : t816 = true
    ·subst c11
     have H1 : ((r02_Len.f k t805).bind fun t818 => (if t818 ≤ 26 then ((r02_Len.f k t812).bind fun t819 => (some (decide (t819 ≤ 26)))) else (none))) = some r := by rw [if_pos rfl] at H; exact H
     clear H
     have H := H1
     clear H1
     obtain ⟨t818, A12, H⟩ := ob_ H
     try dsimp only at H
     by_cases c13 : t818 ≤ 26
     ·rw [if_pos c13] at H
      have c13b0 : decide (t818 ≤ 26) = true := decide_eq_true c13
      clear c13
      obtain ⟨t819, A14, H⟩ := ob_ H
      try dsimp only at H
      obtain rfl := Option.some.inj H
      go_enter Try.func31, Try.ntmps31
      go_wp2_with (first | ((with_reducible refine gate_dst (N := 3) rfl ?_); refine box_event ?hg (N := 3) ?hd (cs := #[.bool a1_0, .slice A1_1 l1_1.length c1_1, .int .i64 a1_2]) (t := 43) ?hr ?_; (case hd => rfl); (case hg => rfl); (case hr => first | (go_simp; done) | (go_simp; rfl)); intro gb798 hg w15 hbox hb; have n0_ := bs_ HB hb; have n1_ := Aside0.mk (hbox); have n2_ := ge_ HB hg; have n3_ := ge_ HB hg; clear HB; have HB := n0_; have BK798 := n1_; have GW798 := n2_; have GE798 := n3_; clear n0_ n1_ n2_ n3_; clear hb hbox hg; have hcz16_0 : w15.cell? ⟨gb798, 0, none⟩ = some (.bool a1_0) := (blk_cell BK798.out 0).trans rfl; have hcz16_1 : w15.cell? ⟨gb798, 1, none⟩ = some (.slice A1_1 l1_1.length c1_1) := (blk_cell BK798.out 1).trans rfl; have hcz16_2 : w15.cell? ⟨gb798, 2, none⟩ = some (.int .i64 a1_2) := (blk_cell BK798.out 2).trans rfl; have hfz16_0 := blk_frozen BK798.out 0; have hfz16_1 := blk_frozen BK798.out 1; have hfz16_2 := blk_frozen BK798.out 2) | ((with_reducible refine gate_callee (f := 51) rfl ?_); refine goesM (some 13) Try.func51 #[.agg #[.bool a1_0, .slice A1_1 l1_1.length c1_1, .int .i64 a1_2], .int .i64 995] ?_; (with_reducible refine (l05_within.calls k a1_0 _ _ l1_1 a1_2 995 true _ ?side1 ?side2 A3.out).mono ?_); (case side1 => repeat (first | exact (Kd.C_below HR1_1.out HB.out) | (with_reducible first | apply cA | apply cN | apply cD))); (case side2 => exact HC1_1.out); rintro e w17 ⟨rfl, hb⟩; refine ⟨_, rfl, ?_⟩; have n0_ := kb_ BK798 hb; have n1_ := bs_ HB hb; clear BK798; clear HB; have BK798 := n0_; have HB := n1_; clear n0_ n1_; (try clear hb); (try clear hb2); (try clear hk); (try clear hi)) | ((with_reducible refine gate_callee (f := 13) rfl ?_); refine goesM (some 17) Try.func13 #[.float .f64 a0] ?_; (with_reducible refine (pair_Halves.calls a0 t800 t801 _ A5.out).mono ?_); rintro e w18 ⟨rfl, hb⟩; refine ⟨_, rfl, ?_⟩; have n0_ := kb_ BK798 hb; have n1_ := bs_ HB hb; clear BK798; clear HB; have BK798 := n0_; have HB := n1_; clear n0_ n1_; (try clear hb); (try clear hb2); (try clear hk); (try clear hi)) | ((with_reducible refine gate_dst (N := 6) rfl ?_); refine box_event ?hg (N := 6) ?hd (cs := #[.float .f64 0, .float .f64 0]) (t := 30) ?hr ?_; (case hd => rfl); (case hg => rfl); (case hr => first | (go_simp; done) | (go_simp; rfl)); intro gb802 hg w19 hbox hb; have n0_ := kb_ BK798 hb; have n1_ := bs_ HB hb; have n2_ := Aside0.mk (hbox); have n3_ := ge_ HB hg; have n4_ := ge_ HB hg; have n5_ := nlt_ BK798 hg; have n6_ := ngt_ BK798 hg; clear BK798; clear HB; have BK798 := n0_; have HB := n1_; have BK802 := n2_; have GW802 := n3_; have GE802 := n4_; have NB798_802 := n5_; have NB802_798 := n6_; clear n0_ n1_ n2_ n3_ n4_ n5_ n6_; clear hb hbox hg; have hnb20 := NB802_798.out; have hnc20 := NB798_802.out; have hcz21_0 : w19.cell? ⟨gb802, 0, none⟩ = some (.float .f64 0) := (blk_cell BK802.out 0).trans rfl; have hcz21_1 : w19.cell? ⟨gb802, 1, none⟩ = some (.float .f64 0) := (blk_cell BK802.out 1).trans rfl; have hfz21_0 := blk_frozen BK802.out 0; have hfz21_1 := blk_frozen BK802.out 1; have hcz22_0 : w19.cell? ⟨gb798, 0, none⟩ = some (.bool a1_0) := (blk_cell BK798.out 0).trans rfl; have hcz22_1 : w19.cell? ⟨gb798, 1, none⟩ = some (.slice A1_1 l1_1.length c1_1) := (blk_cell BK798.out 1).trans rfl; have hcz22_2 : w19.cell? ⟨gb798, 2, none⟩ = some (.int .i64 a1_2) := (blk_cell BK798.out 2).trans rfl; have hfz22_0 := blk_frozen BK798.out 0; have hfz22_1 := blk_frozen BK798.out 1; have hfz22_2 := blk_frozen BK798.out 2) | ((with_reducible refine gate_callee (f := 52) rfl ?_); refine goesM (some 20) Try.func52 #[.agg #[.float .f64 t800, .float .f64 t801], .agg #[.bool a1_0, .slice A1_1 l1_1.length c1_1, .int .i64 a1_2]] ?_; (with_reducible refine (l05_just.calls k t800 t801 a1_0 _ _ l1_1 a1_2 true _ ?side1 ?side2 A6.out).mono ?_); (case side1 => exact Kd.C_below HR1_1.out (bl_ HB)); (case side2 => exact HC1_1.out); rintro e w23 ⟨rfl, hb⟩; refine ⟨_, rfl, ?_⟩; have n0_ := Aside0.mk (blk_below (g := gb798) (o := .cells #[.bool a1_0, .slice A1_1 l1_1.length c1_1, .int .i64 a1_2] 43 (0, 0)) (by (with_reducible repeat (first | apply bN | apply bD | apply bA)); refine blk_far ?_ NB798_802.out _; (with_reducible repeat (first | apply bN | apply bD | apply bA)); refine blk_far ?_ NB798_802.out _; exact bk_ BK798) hb); have n1_ := Aside0.mk (blk_below (g := gb802) (o := .cells #[.float .f64 t800, .float .f64 t801] 30 (0, 0)) (by (with_reducible repeat (first | apply bN | apply bD | apply bA)); refine blk_put (cs := #[.float .f64 t800, .float .f64 0]) ?_ 1 _ rfl; (with_reducible repeat (first | apply bN | apply bD | apply bA)); refine blk_put (cs := #[.float .f64 0, .float .f64 0]) ?_ 0 _ rfl; exact bk_ BK802) hb); have n2_ := bs_ HB hb; clear BK798; clear BK802; clear HB; have BK798 := n0_; have BK802 := n1_; have HB := n2_; clear n0_ n1_ n2_; (try clear hb); (try clear hb2); (try clear hk); (try clear hi); have hcz24_0 : w23.cell? ⟨gb802, 0, none⟩ = some (.float .f64 t800) := (blk_cell BK802.out 0).trans rfl; have hcz24_1 : w23.cell? ⟨gb802, 1, none⟩ = some (.float .f64 t801) := (blk_cell BK802.out 1).trans rfl; have hfz24_0 := blk_frozen BK802.out 0; have hfz24_1 := blk_frozen BK802.out 1) | ((with_reducible refine gate_callee (f := 29) rfl ?_); refine goesM (some 24) Try.func29 #[.float .f64 t800] ?_; (with_reducible refine (l05_finite.calls k t800 t804 t805 t808 true _ A7.out).mono ?_); rintro e w25 ⟨v806, rfl, ho0, hb⟩; refine ⟨_, rfl, ?_⟩; have n0_ := Aside0.mk (Kd.R_lower ho0 (below_size (bl_ HB))); have n1_ := kb_ BK798 hb; have n2_ := kb_ BK802 hb; have n3_ := bs_ HB hb; clear BK798; clear BK802; clear HB; have HO807 := n0_; have BK798 := n1_; have BK802 := n2_; have HB := n3_; clear n0_ n1_ n2_ n3_; (try clear hb); (try clear hb2); (try clear hk); (try clear hi); (try clear ho0)) | ((with_reducible refine gate_dst (N := 8) rfl ?_); refine box_event ?hg (N := 8) ?hd (cs := #[.bool false, .slice none 0 0, .int .i64 0]) (t := 43) ?hr ?_; (case hd => rfl); (case hg => rfl); (case hr => first | (go_simp; done) | (go_simp; rfl)); intro gb810 hg w26 hbox hb; have n0_ := Aside0.mk (Kd.R_below (rr_ HO807) hb); have n1_ := kb_ BK798 hb; have n2_ := kb_ BK802 hb; have n3_ := bs_ HB hb; have n4_ := Aside0.mk (hbox); have n5_ := ge_ HB hg; have n6_ := ge_ HB hg; have n7_ := nlt_ BK798 hg; have n8_ := ngt_ BK798 hg; have n9_ := nlt_ BK802 hg; have n10_ := ngt_ BK802 hg; clear HO807; clear BK798; clear BK802; clear HB; have HO807 := n0_; have BK798 := n1_; have BK802 := n2_; have HB := n3_; have BK810 := n4_; have GW810 := n5_; have GE810 := n6_; have NB798_810 := n7_; have NB810_798 := n8_; have NB802_810 := n9_; have NB810_802 := n10_; clear n0_ n1_ n2_ n3_ n4_ n5_ n6_ n7_ n8_ n9_ n10_; clear hb hbox hg; have hnb27 := NB810_798.out; have hnc27 := NB798_810.out; have hnb28 := NB810_802.out; have hnc28 := NB802_810.out; have hcz29_0 : w26.cell? ⟨gb810, 0, none⟩ = some (.bool false) := (blk_cell BK810.out 0).trans rfl; have hcz29_1 : w26.cell? ⟨gb810, 1, none⟩ = some (.slice none 0 0) := (blk_cell BK810.out 1).trans rfl; have hcz29_2 : w26.cell? ⟨gb810, 2, none⟩ = some (.int .i64 0) := (blk_cell BK810.out 2).trans rfl; have hfz29_0 := blk_frozen BK810.out 0; have hfz29_1 := blk_frozen BK810.out 1; have hfz29_2 := blk_frozen BK810.out 2; obtain ⟨Ao30, co30, eo30⟩ := Kd.R_slice HO807.out; subst eo30; have hcz31_0 : w26.cell? ⟨gb802, 0, none⟩ = some (.float .f64 t800) := (blk_cell BK802.out 0).trans rfl; have hcz31_1 : w26.cell? ⟨gb802, 1, none⟩ = some (.float .f64 t801) := (blk_cell BK802.out 1).trans rfl; have hfz31_0 := blk_frozen BK802.out 0; have hfz31_1 := blk_frozen BK802.out 1) | ((with_reducible refine gate_callee (f := 29) rfl ?_); refine goesM (some 30) Try.func29 #[.float .f64 t801] ?_; (with_reducible refine (l05_finite.calls k t801 t811 t812 t815 true _ A8.out).mono ?_); rintro e w32 ⟨v813, rfl, ho0, hb⟩; refine ⟨_, rfl, ?_⟩; have n0_ := Aside0.mk (Kd.R_elder' (by (with_reducible repeat (first | apply rA | apply rN | apply rD)); exact (Kd.R_mono (Kd.R_far (p := ⟨gb810, 2, none⟩) (Kd.R_far (p := ⟨gb810, 1, none⟩) (Kd.R_far (p := ⟨gb810, 0, none⟩) (Kd.R_types HO807.out BK810.out (by decide)) (fun _ hk => hk.2) (.bool t804)) (fun _ hk => hk.2) (.slice Ao30 t805.length co30)) (fun _ hk => hk.2) (.int .i64 t808)) (fun _ h_ => h_.1))) (Kd.R_base ho0) hb); have n1_ := Aside0.mk (Kd.R_lower (Kd.R_new' ho0 (Kd.R_lt (by (with_reducible repeat (first | apply rA | apply rN | apply rD)); exact (Kd.R_mono (Kd.R_far (p := ⟨gb810, 2, none⟩) (Kd.R_far (p := ⟨gb810, 1, none⟩) (Kd.R_far (p := ⟨gb810, 0, none⟩) (Kd.R_types HO807.out BK810.out (by decide)) (fun _ hk => hk.2) (.bool t804)) (fun _ hk => hk.2) (.slice Ao30 t805.length co30)) (fun _ hk => hk.2) (.int .i64 t808)) (fun _ h_ => h_.1))))) (below_size (bl_ HB))); have n2_ := Aside0.mk (blk_below (g := gb798) (o := .cells #[.bool a1_0, .slice A1_1 l1_1.length c1_1, .int .i64 a1_2] 43 (0, 0)) (by (with_reducible repeat (first | apply bN | apply bD | apply bA)); refine blk_far ?_ NB798_810.out _; (with_reducible repeat (first | apply bN | apply bD | apply bA)); refine blk_far ?_ NB798_810.out _; (with_reducible repeat (first | apply bN | apply bD | apply bA)); refine blk_far ?_ NB798_810.out _; exact bk_ BK798) hb); have n3_ := Aside0.mk (blk_below (g := gb802) (o := .cells #[.float .f64 t800, .float .f64 t801] 30 (0, 0)) (by (with_reducible repeat (first | apply bN | apply bD | apply bA)); refine blk_far ?_ NB802_810.out _; (with_reducible repeat (first | apply bN | apply bD | apply bA)); refine blk_far ?_ NB802_810.out _; (with_reducible repeat (first | apply bN | apply bD | apply bA)); refine blk_far ?_ NB802_810.out _; exact bk_ BK802) hb); have n4_ := Aside0.mk (blk_below (g := gb810) (o := .cells #[.bool t804, .slice Ao30 t805.length co30, .int .i64 t808] 43 (0, 0)) (by (with_reducible repeat (first | apply bN | apply bD | apply bA)); refine blk_put (cs := #[.bool t804, .slice Ao30 t805.length co30, .int .i64 0]) ?_ 2 _ rfl; (with_reducible repeat (first | apply bN | apply bD | apply bA)); refine blk_put (cs := #[.bool t804, .slice none 0 0, .int .i64 0]) ?_ 1 _ rfl; (with_reducible repeat (first | apply bN | apply bD | apply bA)); refine blk_put (cs := #[.bool false, .slice none 0 0, .int .i64 0]) ?_ 0 _ rfl; exact bk_ BK810) hb); have n5_ := bs_ HB hb; clear HO807; clear BK798; clear BK802; clear BK810; clear HB; have HO807 := n0_; have HO814 := n1_; have BK798 := n2_; have BK802 := n3_; have BK810 := n4_; have HB := n5_; clear n0_ n1_ n2_ n3_ n4_ n5_; (try clear hb); (try clear hb2); (try clear hk); (try clear hi); (try clear ho0)) | ((with_reducible refine gate_dst (N := 10) rfl ?_); refine box_event ?hg (N := 10) ?hd (cs := #[.bool false, .slice none 0 0, .int .i64 0]) (t := 43) ?hr ?_; (case hd => rfl); (case hg => rfl); (case hr => first | (go_simp; done) | (go_simp; rfl)); intro gb817 hg w33 hbox hb; have n0_ := Aside0.mk (Kd.R_below (rr_ HO807) hb); have n1_ := Aside0.mk (Kd.R_below (rr_ HO814) hb); have n2_ := kb_ BK798 hb; have n3_ := kb_ BK802 hb; have n4_ := kb_ BK810 hb; have n5_ := bs_ HB hb; have n6_ := Aside0.mk (hbox); have n7_ := ge_ HB hg; have n8_ := ge_ HB hg; have n9_ := nlt_ BK798 hg; have n10_ := ngt_ BK798 hg; have n11_ := nlt_ BK802 hg; have n12_ := ngt_ BK802 hg; have n13_ := nlt_ BK810 hg; have n14_ := ngt_ BK810 hg; clear HO807; clear HO814; clear BK798; clear BK802; clear BK810; clear HB; have HO807 := n0_; have HO814 := n1_; have BK798 := n2_; have BK802 := n3_; have BK810 := n4_; have HB := n5_; have BK817 := n6_; have GW817 := n7_; have GE817 := n8_; have NB798_817 := n9_; have NB817_798 := n10_; have NB802_817 := n11_; have NB817_802 := n12_; have NB810_817 := n13_; have NB817_810 := n14_; clear n0_ n1_ n2_ n3_ n4_ n5_ n6_ n7_ n8_ n9_ n10_ n11_ n12_ n13_ n14_; clear hb hbox hg; have hnb34 := NB817_798.out; have hnc34 := NB798_817.out; have hnb35 := NB817_802.out; have hnc35 := NB802_817.out; have hnb36 := NB817_810.out; have hnc36 := NB810_817.out; have hcz37_0 : w33.cell? ⟨gb817, 0, none⟩ = some (.bool false) := (blk_cell BK817.out 0).trans rfl; have hcz37_1 : w33.cell? ⟨gb817, 1, none⟩ = some (.slice none 0 0) := (blk_cell BK817.out 1).trans rfl; have hcz37_2 : w33.cell? ⟨gb817, 2, none⟩ = some (.int .i64 0) := (blk_cell BK817.out 2).trans rfl; have hfz37_0 := blk_frozen BK817.out 0; have hfz37_1 := blk_frozen BK817.out 1; have hfz37_2 := blk_frozen BK817.out 2; obtain ⟨Ao38, co38, eo38⟩ := Kd.R_slice HO814.out; subst eo38; have hcz39_0 : w33.cell? ⟨gb810, 0, none⟩ = some (.bool t804) := (blk_cell BK810.out 0).trans rfl; have hcz39_1 : w33.cell? ⟨gb810, 1, none⟩ = some (.slice Ao30 t805.length co30) := (blk_cell BK810.out 1).trans rfl; have hcz39_2 : w33.cell? ⟨gb810, 2, none⟩ = some (.int .i64 t808) := (blk_cell BK810.out 2).trans rfl; have hfz39_0 := blk_frozen BK810.out 0; have hfz39_1 := blk_frozen BK810.out 1; have hfz39_2 := blk_frozen BK810.out 2) | (go_at_call 55; (with_reducible refine (r02_Len.calls k _ _ t805 t818 _ ?side1 ?side2 A12.out).mono ?_); (case side1 => refine (Kd.R_reads' (e := 72) (base := w.heap.size) (ok := fun k_ => (True ∧ some k_ ≠ (.slice Ao38 t812.length co38 : Value).ownBlock)) (n := t805.length) (c := co30) ?_).2.2; exact (by (with_reducible repeat (first | apply rA | apply rN | apply rD)); exact (Kd.R_mono (Kd.R_far (p := ⟨gb817, 2, none⟩) (Kd.R_far (p := ⟨gb817, 1, none⟩) (Kd.R_far (p := ⟨gb817, 0, none⟩) (Kd.R_types HO807.out BK817.out (by decide)) (fun _ hk => hk.2) (.bool t811)) (fun _ hk => hk.2) (.slice Ao38 t812.length co38)) (fun _ hk => hk.2) (.int .i64 t815)) (fun _ h_ => h_.1)))); (case side2 => exact (Kd.R_reads' HO807.out).2.1); rintro e w' ⟨rfl, ⟨nd, rfl⟩⟩) | (go_at_call 55; (with_reducible refine (r02_Len.calls k _ _ t812 t819 _ ?side1 ?side2 A14.out).mono ?_); (case side1 => refine (Kd.R_reads' (e := 72) (base := w.heap.size) (ok := fun k_ => (True ∧ some k_ ≠ (.slice Ao30 t805.length co30 : Value).ownBlock)) (n := t812.length) (c := co38) ?_).2.2; exact (by (with_reducible repeat (first | apply rA | apply rN | apply rD)); exact (Kd.R_mono (Kd.R_far (p := ⟨gb817, 2, none⟩) (Kd.R_far (p := ⟨gb817, 1, none⟩) (Kd.R_far (p := ⟨gb817, 0, none⟩) (Kd.R_types HO814.out BK817.out (by decide)) (fun _ hk => hk.2) (.bool t811)) (fun _ hk => hk.2) (.slice Ao38 t812.length co38)) (fun _ hk => hk.2) (.int .i64 t815)) (fun _ h_ => h_.1)))); (case side2 => exact (Kd.R_reads' HO814.out).2.1); rintro e w' ⟨rfl, ⟨nd, rfl⟩⟩))
      go_ret
      exact ⟨by first | rfl | (simp [errW_none, errW_some] <;> rfl) | (simp [*, errW_none, errW_some] <;> rfl), bl_ HB⟩
     ·rw [if_neg c13] at H
      exact absurd H (by simp)
    ·replace c11 := Bool.eq_false_iff.mpr c11
     subst c11
     have H1 : (none) = some r := by rw [if_neg (show ¬ (false = true) by decide)] at H; exact H
     clear H
     have H := H1
     clear H1
     exact absurd H (by simp)
   ·replace c10 := Bool.eq_false_iff.mpr c10
    subst c10
    have H1 : (none) = some r := by rw [if_neg (show ¬ (false = true) by decide)] at H; exact H
    clear H
    have H := H1
    clear H1
    exact absurd H (by simp)
  ·replace c9 := Bool.eq_false_iff.mpr c9
   subst c9
   have H1 : (none) = some r := by rw [if_neg (show ¬ (false = true) by decide)] at H; exact H
   clear H
   have H := H1
   clear H1
   exact absurd H (by simp)
 ·replace c4 := Bool.eq_false_iff.mpr c4
  subst c4
  have H1 : (some true) = some r := by rw [if_neg (show ¬ (false = true) by decide)] at H; exact H
  clear H
  have H := H1
  clear H1
  obtain rfl := Option.some.inj H
  go_enter Try.func31, Try.ntmps31
  go_wp2_with (first | ((with_reducible refine gate_dst (N := 3) rfl ?_); refine box_event ?hg (N := 3) ?hd (cs := #[.bool a1_0, .slice A1_1 l1_1.length c1_1, .int .i64 a1_2]) (t := 43) ?hr ?_; (case hd => rfl); (case hg => rfl); (case hr => first | (go_simp; done) | (go_simp; rfl)); intro gb798 hg w40 hbox hb; have n0_ := bs_ HB hb; have n1_ := Aside0.mk (hbox); have n2_ := ge_ HB hg; have n3_ := ge_ HB hg; clear HB; have HB := n0_; have BK798 := n1_; have GW798 := n2_; have GE798 := n3_; clear n0_ n1_ n2_ n3_; clear hb hbox hg; have hcz41_0 : w40.cell? ⟨gb798, 0, none⟩ = some (.bool a1_0) := (blk_cell BK798.out 0).trans rfl; have hcz41_1 : w40.cell? ⟨gb798, 1, none⟩ = some (.slice A1_1 l1_1.length c1_1) := (blk_cell BK798.out 1).trans rfl; have hcz41_2 : w40.cell? ⟨gb798, 2, none⟩ = some (.int .i64 a1_2) := (blk_cell BK798.out 2).trans rfl; have hfz41_0 := blk_frozen BK798.out 0; have hfz41_1 := blk_frozen BK798.out 1; have hfz41_2 := blk_frozen BK798.out 2) | ((with_reducible refine gate_callee (f := 51) rfl ?_); refine goesM (some 13) Try.func51 #[.agg #[.bool a1_0, .slice A1_1 l1_1.length c1_1, .int .i64 a1_2], .int .i64 995] ?_; (with_reducible refine (l05_within.calls k a1_0 _ _ l1_1 a1_2 995 false _ ?side1 ?side2 A3.out).mono ?_); (case side1 => repeat (first | exact (Kd.C_below HR1_1.out HB.out) | (with_reducible first | apply cA | apply cN | apply cD))); (case side2 => exact HC1_1.out); rintro e w42 ⟨rfl, hb⟩; refine ⟨_, rfl, ?_⟩; have n0_ := kb_ BK798 hb; have n1_ := bs_ HB hb; clear BK798; clear HB; have BK798 := n0_; have HB := n1_; clear n0_ n1_; (try clear hb); (try clear hb2); (try clear hk); (try clear hi)))
  go_ret
  exact ⟨by first | rfl | (simp [errW_none, errW_some] <;> rfl) | (simp [*, errW_none, errW_some] <;> rfl), bl_ HB⟩

end Go.Proofs.Ytdemanikmaafeaa.Pr
-- written by this session's own program (wip/fprint.py), which widens the kit's print by floats
namespace Go.Proofs.Ytdemanikmaafeaa.Pr
open Go.RowKit Go.Proofs.YtdemanikmaafeaaW.PrintWords Go.Proofs.YtdemanikmaafeaaW.PrintLast Go.Proofs.YtdemanikmaafeaaW.PrintMore
attribute [local go_sem] max2_int min2_int max_two min_two max_three min_three max_four min_four   -- for this text's walks alone
set_option linter.unusedVariables false
set_option linter.unusedSimpArgs false

/-! ### r03_Mul: function 36 -/
def r03_Mul.j0 : Nat → Bool → Bool → List Int → Int → Bool → List Int → Int → Option (Bool × List Int × Int × Int)
 | 0, _, _, _, _, _, _, _ => none
 | k + 1, x25, x563000, x563001, x563002, x570000, x570001, x570002 => if x25 = true then (some (false, ([] : List Int), 0, 2)) else ((r02_Times.f k x563001 x570001).bind fun t570 => ((r03_told.f k (x563000 != x570000) t570 (wrap64 (x563002 + x570002))).bind fun bt573 => (some (bt573.1, bt573.2.1, bt573.2.2.1, bt573.2.2.2))))
def r03_Mul.f (k : Nat) (a0_0 : Bool) (l0_1 : List Int) (a0_2 : Int) (a1_0 : Bool) (l1_1 : List Int) (a1_2 : Int) : Option (Bool × List Int × Int × Int) := (r03_Made.f k a0_0 l0_1 a0_2).bind fun bt556 => ((r03_Made.f k a1_0 l1_1 a1_2).bind fun bt563 => (if bt556.2.2.2 = true then (r03_Mul.j0 k (!bt563.2.2.2) bt556.1 bt556.2.1 bt556.2.2.1 bt563.1 bt563.2.1 bt563.2.2.1) else (r03_Mul.j0 k true bt556.1 bt556.2.1 bt556.2.2.1 bt563.1 bt563.2.1 bt563.2.2.1)))
theorem r03_Mul.mono_l : ∀ k, (∀ y0 y1 y2 y3 y4 y5 y6, LeO (r03_Mul.j0 k y0 y1 y2 y3 y4 y5 y6) (r03_Mul.j0 (k + 1) y0 y1 y2 y3 y4 y5 y6))
 | 0 => fun _ _ _ _ _ _ _ r h => by simp [r03_Mul.j0] at h
 | k + 1 => by
  have ih0 := r03_Mul.mono_l k
  ·intro y0 y1 y2 y3 y4 y5 y6
   unfold r03_Mul.j0
   repeat' first
   | (with_reducible exact ih0 _ _ _ _ _ _ _)
   | (with_reducible exact r02_Times.mono _ _ _)
   | (with_reducible exact r03_Made.mono _ _ _ _)
   | (with_reducible exact r03_told.mono _ _ _ _)
   | (with_reducible exact LeO.refl _)
   | (with_reducible exact LeO.none _)
   | (with_reducible refine LeO.ite ?_ ?_)
   | (with_reducible refine LeO.bind ?_ (fun _ => ?_))
   | exact ih0 _ _ _ _ _ _ _
   | exact r02_Times.mono _ _ _
   | exact r03_Made.mono _ _ _ _
   | exact r03_told.mono _ _ _ _
   | exact LeO.none _
   | refine LeO.ite ?_ ?_
   | refine LeO.bind ?_ (fun _ => ?_)
theorem r03_Mul.mono : ∀ a0 a1 a2 a3 a4 a5 k, LeO (r03_Mul.f k a0 a1 a2 a3 a4 a5) (r03_Mul.f (k + 1) a0 a1 a2 a3 a4 a5) := by
 intro a0 a1 a2 a3 a4 a5 k
 have ih0 := r03_Mul.mono_l k
 unfold r03_Mul.f
 repeat' first
   | (with_reducible exact ih0 _ _ _ _ _ _ _)
   | (with_reducible exact r02_Times.mono _ _ _)
   | (with_reducible exact r03_Made.mono _ _ _ _)
   | (with_reducible exact r03_told.mono _ _ _ _)
   | (with_reducible exact LeO.refl _)
   | (with_reducible exact LeO.none _)
   | (with_reducible refine LeO.ite ?_ ?_)
   | (with_reducible refine LeO.bind ?_ (fun _ => ?_))
   | exact ih0 _ _ _ _ _ _ _
   | exact r02_Times.mono _ _ _
   | exact r03_Made.mono _ _ _ _
   | exact r03_told.mono _ _ _ _
   | exact LeO.none _
   | refine LeO.ite ?_ ?_
   | refine LeO.bind ?_ (fun _ => ?_)
def r03_Mul.T5 : Bool × List (List Nat × List Nat) := (true, [([], []), ([0], [0]), ([], []), ([2], [2]), ([1, 3], [1, 3]), ([], []), ([5], [5]), ([], []), ([7], [7]), ([6, 8], [6, 8]), ([], []), ([10], [10]), ([], []), ([12], [12]), ([11, 13], [11, 13]), ([4, 9, 14, 9], [4, 9, 14]), ([15], [15]), ([15], [15]), ([16, 15, 0, 1, 2, 3, 4, 5, 6, 7, 8, 9, 10, 11, 12, 13, 14, 15, 16, 17], [16]), ([17, 18, 0, 1, 2, 3, 4, 5, 6, 7, 8, 9, 10, 11, 12, 13, 14, 15, 16, 17, 18], [17])])
def r03_Mul.B5 : List Nat := [0, 1, 0, 4, 15, 0, 32, 0, 128, 480, 0, 1024, 0, 4096, 15360, 32767, 65535, 65535, 262143, 524287]
theorem r03_Mul.tab5 : rtab .any (opsOf Try.f36 5) = r03_Mul.T5 := by kernel_rfl
theorem r03_Mul.bits5 : waitsOk r03_Mul.T5.2 r03_Mul.B5 = true := by kernel_rfl
set_option maxHeartbeats 3000000 in
set_option maxRecDepth 100000 in
theorem r03_Mul.calls (k : Nat) (a0_0 : Bool) (A0_1 : Option Addr) (c0_1 : Nat) (l0_1 : List Int) (a0_2 : Int) (a1_0 : Bool) (A1_1 : Option Addr) (c1_1 : Nat) (l1_1 : List Int) (a1_2 : Int) (r1 : Bool) (r2 : List Int) (r3 : Int) (r4 : Int) (w : World) (hr0_1 : Kd.C (Kd.int .u32) w A0_1 l0_1.length l0_1) (hc0_1 : l0_1.length ≤ c0_1) (hr1_1 : Kd.C (Kd.int .u32) w A1_1 l1_1.length l1_1) (hc1_1 : l1_1.length ≤ c1_1) (h : r03_Mul.f k a0_0 l0_1 a0_2 a1_0 l1_1 a1_2 = some (r1, r2, r3, r4)) :
  Calls Try.prog 36 #[.agg #[.bool a0_0, .slice A0_1 l0_1.length c0_1, .int .i64 a0_2], .agg #[.bool a1_0, .slice A1_1 l1_1.length c1_1, .int .i64 a1_2]] w fun e w' => ∃ v1_ : Value, e = .returned (.tuple #[.agg #[.bool r1, v1_, .int .i64 r3], .int .i64 r4]) ∧ Kd.R (Kd.int .u32) 72 w' w.heap.size (fun _ => True) v1_ r2 ∧ Below w.heap.size w w' := by
 have hu43 := Try.underlying43
 have HR0_1 := Aside0.mk hr0_1
 have HC0_1 := Aside0.mk hc0_1
 clear hr0_1 hc0_1
 have HR1_1 := Aside0.mk hr1_1
 have HC1_1 := Aside0.mk hc1_1
 clear hr1_1 hc1_1
 have HB := Aside0.mk (Below.refl w.heap.size w)
 have H : ((r03_Made.f k a0_0 l0_1 a0_2).bind fun bt556 => ((r03_Made.f k a1_0 l1_1 a1_2).bind fun bt563 => (if bt556.2.2.2 = true then (r03_Mul.j0 k (!bt563.2.2.2) bt556.1 bt556.2.1 bt556.2.2.1 bt563.1 bt563.2.1 bt563.2.2.1) else (r03_Mul.j0 k true bt556.1 bt556.2.1 bt556.2.2.1 bt563.1 bt563.2.1 bt563.2.2.1)))) = some (r1, r2, r3, r4) := h
 clear h
 obtain ⟨⟨t556, t557, t560, t561⟩, A3, H⟩ := ob_ H
 try dsimp only at H
 obtain ⟨⟨t563, t564, t567, t568⟩, A4, H⟩ := ob_ H
 try dsimp only at H
 have HC5 := Aside0.mk H
 clear H
 go_enter Try.func36, Try.ntmps36
 go_upto_region 3 with (first | ((with_reducible refine gate_dst (N := 2) rfl ?_); refine box_event ?hg (N := 2) ?hd (cs := #[.bool a0_0, .slice A0_1 l0_1.length c0_1, .int .i64 a0_2]) (t := 43) ?hr ?_; (case hd => rfl); (case hg => rfl); (case hr => first | (go_simp; done) | (go_simp; rfl)); intro gb553 hg w6 hbox hb; have n0_ := bs_ HB hb; have n1_ := Aside0.mk (hbox); have n2_ := ge_ HB hg; have n3_ := ge_ HB hg; clear HB; have HB := n0_; have BK553 := n1_; have GW553 := n2_; have GE553 := n3_; clear n0_ n1_ n2_ n3_; clear hb hbox hg) | ((with_reducible refine gate_dst (N := 3) rfl ?_); refine box_event ?hg (N := 3) ?hd (cs := #[.bool a1_0, .slice A1_1 l1_1.length c1_1, .int .i64 a1_2]) (t := 43) ?hr ?_; (case hd => rfl); (case hg => rfl); (case hr => first | (go_simp; done) | (go_simp; rfl)); intro gb554 hg w7 hbox hb; have n0_ := kb_ BK553 hb; have n1_ := bs_ HB hb; have n2_ := Aside0.mk (hbox); have n3_ := ge_ HB hg; have n4_ := ge_ HB hg; have n5_ := nlt_ BK553 hg; have n6_ := ngt_ BK553 hg; clear BK553; clear HB; have BK553 := n0_; have HB := n1_; have BK554 := n2_; have GW554 := n3_; have GE554 := n4_; have NB553_554 := n5_; have NB554_553 := n6_; clear n0_ n1_ n2_ n3_ n4_ n5_ n6_; clear hb hbox hg) | ((with_reducible refine gate_dst (N := 4) rfl ?_); refine box_event ?hg (N := 4) ?hd (cs := #[.bool false, .slice none 0 0, .int .i64 0]) (t := 43) ?hr ?_; (case hd => rfl); (case hg => rfl); (case hr => first | (go_simp; done) | (go_simp; rfl)); intro gb555 hg w8 hbox hb; have n0_ := kb_ BK553 hb; have n1_ := kb_ BK554 hb; have n2_ := bs_ HB hb; have n3_ := Aside0.mk (hbox); have n4_ := ge_ HB hg; have n5_ := ge_ HB hg; have n6_ := nlt_ BK553 hg; have n7_ := ngt_ BK553 hg; have n8_ := nlt_ BK554 hg; have n9_ := ngt_ BK554 hg; clear BK553; clear BK554; clear HB; have BK553 := n0_; have BK554 := n1_; have HB := n2_; have BK555 := n3_; have GW555 := n4_; have GE555 := n5_; have NB553_555 := n6_; have NB555_553 := n7_; have NB554_555 := n8_; have NB555_554 := n9_; clear n0_ n1_ n2_ n3_ n4_ n5_ n6_ n7_ n8_ n9_; clear hb hbox hg; have hnb9 := NB553_554.out; have hnc9 := NB554_553.out; have hnb10 := NB553_555.out; have hnc10 := NB555_553.out; have hcz11_0 : w8.cell? ⟨gb553, 0, none⟩ = some (.bool a0_0) := (blk_cell BK553.out 0).trans rfl; have hcz11_1 : w8.cell? ⟨gb553, 1, none⟩ = some (.slice A0_1 l0_1.length c0_1) := (blk_cell BK553.out 1).trans rfl; have hcz11_2 : w8.cell? ⟨gb553, 2, none⟩ = some (.int .i64 a0_2) := (blk_cell BK553.out 2).trans rfl; have hfz11_0 := blk_frozen BK553.out 0; have hfz11_1 := blk_frozen BK553.out 1; have hfz11_2 := blk_frozen BK553.out 2) | ((with_reducible refine gate_callee (f := 57) rfl ?_); refine goesM (some 12) Try.func57 #[.agg #[.bool a0_0, .slice A0_1 l0_1.length c0_1, .int .i64 a0_2]] ?_; (with_reducible refine (r03_Made.calls k a0_0 _ _ l0_1 a0_2 t556 t557 t560 t561 _ ?side1 ?side2 A3.out).mono ?_); (case side1 => repeat (first | exact (Kd.C_below HR0_1.out HB.out) | (with_reducible first | apply cA | apply cN | apply cD))); (case side2 => exact HC0_1.out); rintro e w12 ⟨v558, rfl, ho0, hb⟩; refine ⟨_, rfl, ?_⟩; have n0_ := Aside0.mk (Kd.R_lower ho0 (below_size (bl_ HB))); have n1_ := kb_ BK553 hb; have n2_ := kb_ BK554 hb; have n3_ := kb_ BK555 hb; have n4_ := bs_ HB hb; clear BK553; clear BK554; clear BK555; clear HB; have HO559 := n0_; have BK553 := n1_; have BK554 := n2_; have BK555 := n3_; have HB := n4_; clear n0_ n1_ n2_ n3_ n4_; (try clear hb); (try clear hb2); (try clear hk); (try clear hi); (try clear ho0)) | ((with_reducible refine gate_dst (N := 6) rfl ?_); refine box_event ?hg (N := 6) ?hd (cs := #[.bool false, .slice none 0 0, .int .i64 0]) (t := 43) ?hr ?_; (case hd => rfl); (case hg => rfl); (case hr => first | (go_simp; done) | (go_simp; rfl)); intro gb562 hg w13 hbox hb; have n0_ := Aside0.mk (Kd.R_below (rr_ HO559) hb); have n1_ := kb_ BK553 hb; have n2_ := kb_ BK554 hb; have n3_ := kb_ BK555 hb; have n4_ := bs_ HB hb; have n5_ := Aside0.mk (hbox); have n6_ := ge_ HB hg; have n7_ := ge_ HB hg; have n8_ := nlt_ BK553 hg; have n9_ := ngt_ BK553 hg; have n10_ := nlt_ BK554 hg; have n11_ := ngt_ BK554 hg; have n12_ := nlt_ BK555 hg; have n13_ := ngt_ BK555 hg; clear HO559; clear BK553; clear BK554; clear BK555; clear HB; have HO559 := n0_; have BK553 := n1_; have BK554 := n2_; have BK555 := n3_; have HB := n4_; have BK562 := n5_; have GW562 := n6_; have GE562 := n7_; have NB553_562 := n8_; have NB562_553 := n9_; have NB554_562 := n10_; have NB562_554 := n11_; have NB555_562 := n12_; have NB562_555 := n13_; clear n0_ n1_ n2_ n3_ n4_ n5_ n6_ n7_ n8_ n9_ n10_ n11_ n12_ n13_; clear hb hbox hg; have hnb14 := NB562_553.out; have hnc14 := NB553_562.out; have hnb15 := NB562_554.out; have hnc15 := NB554_562.out; have hnb16 := NB562_555.out; have hnc16 := NB555_562.out; have hcz17_0 : w13.cell? ⟨gb562, 0, none⟩ = some (.bool false) := (blk_cell BK562.out 0).trans rfl; have hcz17_1 : w13.cell? ⟨gb562, 1, none⟩ = some (.slice none 0 0) := (blk_cell BK562.out 1).trans rfl; have hcz17_2 : w13.cell? ⟨gb562, 2, none⟩ = some (.int .i64 0) := (blk_cell BK562.out 2).trans rfl; have hfz17_0 := blk_frozen BK562.out 0; have hfz17_1 := blk_frozen BK562.out 1; have hfz17_2 := blk_frozen BK562.out 2; obtain ⟨Ao18, co18, eo18⟩ := Kd.R_slice HO559.out; subst eo18; have hnb19 := NB554_555.out; have hnc19 := NB555_554.out; have hcz20_0 : w13.cell? ⟨gb554, 0, none⟩ = some (.bool a1_0) := (blk_cell BK554.out 0).trans rfl; have hcz20_1 : w13.cell? ⟨gb554, 1, none⟩ = some (.slice A1_1 l1_1.length c1_1) := (blk_cell BK554.out 1).trans rfl; have hcz20_2 : w13.cell? ⟨gb554, 2, none⟩ = some (.int .i64 a1_2) := (blk_cell BK554.out 2).trans rfl; have hfz20_0 := blk_frozen BK554.out 0; have hfz20_1 := blk_frozen BK554.out 1; have hfz20_2 := blk_frozen BK554.out 2) | ((with_reducible refine gate_callee (f := 57) rfl ?_); refine goesM (some 17) Try.func57 #[.agg #[.bool a1_0, .slice A1_1 l1_1.length c1_1, .int .i64 a1_2]] ?_; (with_reducible refine (r03_Made.calls k a1_0 _ _ l1_1 a1_2 t563 t564 t567 t568 _ ?side1 ?side2 A4.out).mono ?_); (case side1 => exact Kd.C_below HR1_1.out (bl_ HB)); (case side2 => exact HC1_1.out); rintro e w21 ⟨v565, rfl, ho0, hb⟩; refine ⟨_, rfl, ?_⟩; have n0_ := Aside0.mk (Kd.R_elder' (by (with_reducible repeat (first | apply rA | apply rN | apply rD)); exact (Kd.R_mono (Kd.R_far (p := ⟨gb562, 2, none⟩) (Kd.R_far (p := ⟨gb562, 1, none⟩) (Kd.R_far (p := ⟨gb562, 0, none⟩) (Kd.R_types HO559.out BK562.out (by decide)) (fun _ hk => hk.2) (.bool t556)) (fun _ hk => hk.2) (.slice Ao18 t557.length co18)) (fun _ hk => hk.2) (.int .i64 t560)) (fun _ h_ => h_.1))) (Kd.R_base ho0) hb); have n1_ := Aside0.mk (Kd.R_lower (Kd.R_new' ho0 (Kd.R_lt (by (with_reducible repeat (first | apply rA | apply rN | apply rD)); exact (Kd.R_mono (Kd.R_far (p := ⟨gb562, 2, none⟩) (Kd.R_far (p := ⟨gb562, 1, none⟩) (Kd.R_far (p := ⟨gb562, 0, none⟩) (Kd.R_types HO559.out BK562.out (by decide)) (fun _ hk => hk.2) (.bool t556)) (fun _ hk => hk.2) (.slice Ao18 t557.length co18)) (fun _ hk => hk.2) (.int .i64 t560)) (fun _ h_ => h_.1))))) (below_size (bl_ HB))); have n2_ := Aside0.mk (blk_below (g := gb553) (o := .cells #[.bool a0_0, .slice A0_1 l0_1.length c0_1, .int .i64 a0_2] 43 (0, 0)) (by (with_reducible repeat (first | apply bN | apply bD | apply bA)); refine blk_far ?_ NB553_562.out _; (with_reducible repeat (first | apply bN | apply bD | apply bA)); refine blk_far ?_ NB553_562.out _; (with_reducible repeat (first | apply bN | apply bD | apply bA)); refine blk_far ?_ NB553_562.out _; exact bk_ BK553) hb); have n3_ := Aside0.mk (blk_below (g := gb554) (o := .cells #[.bool a1_0, .slice A1_1 l1_1.length c1_1, .int .i64 a1_2] 43 (0, 0)) (by (with_reducible repeat (first | apply bN | apply bD | apply bA)); refine blk_far ?_ NB554_562.out _; (with_reducible repeat (first | apply bN | apply bD | apply bA)); refine blk_far ?_ NB554_562.out _; (with_reducible repeat (first | apply bN | apply bD | apply bA)); refine blk_far ?_ NB554_562.out _; exact bk_ BK554) hb); have n4_ := Aside0.mk (blk_below (g := gb555) (o := .cells #[.bool false, .slice none 0 0, .int .i64 0] 43 (0, 0)) (by (with_reducible repeat (first | apply bN | apply bD | apply bA)); refine blk_far ?_ NB555_562.out _; (with_reducible repeat (first | apply bN | apply bD | apply bA)); refine blk_far ?_ NB555_562.out _; (with_reducible repeat (first | apply bN | apply bD | apply bA)); refine blk_far ?_ NB555_562.out _; exact bk_ BK555) hb); have n5_ := Aside0.mk (blk_below (g := gb562) (o := .cells #[.bool t556, .slice Ao18 t557.length co18, .int .i64 t560] 43 (0, 0)) (by (with_reducible repeat (first | apply bN | apply bD | apply bA)); refine blk_put (cs := #[.bool t556, .slice Ao18 t557.length co18, .int .i64 0]) ?_ 2 _ rfl; (with_reducible repeat (first | apply bN | apply bD | apply bA)); refine blk_put (cs := #[.bool t556, .slice none 0 0, .int .i64 0]) ?_ 1 _ rfl; (with_reducible repeat (first | apply bN | apply bD | apply bA)); refine blk_put (cs := #[.bool false, .slice none 0 0, .int .i64 0]) ?_ 0 _ rfl; exact bk_ BK562) hb); have n6_ := bs_ HB hb; clear HO559; clear BK553; clear BK554; clear BK555; clear BK562; clear HB; have HO559 := n0_; have HO566 := n1_; have BK553 := n2_; have BK554 := n3_; have BK555 := n4_; have BK562 := n5_; have HB := n6_; clear n0_ n1_ n2_ n3_ n4_ n5_ n6_; (try clear hb); (try clear hb2); (try clear hk); (try clear hi); (try clear ho0)) | ((with_reducible refine gate_dst (N := 8) rfl ?_); refine box_event ?hg (N := 8) ?hd (cs := #[.bool false, .slice none 0 0, .int .i64 0]) (t := 43) ?hr ?_; (case hd => rfl); (case hg => rfl); (case hr => first | (go_simp; done) | (go_simp; rfl)); intro gb569 hg w22 hbox hb; have n0_ := Aside0.mk (Kd.R_below (rr_ HO559) hb); have n1_ := Aside0.mk (Kd.R_below (rr_ HO566) hb); have n2_ := kb_ BK553 hb; have n3_ := kb_ BK554 hb; have n4_ := kb_ BK555 hb; have n5_ := kb_ BK562 hb; have n6_ := bs_ HB hb; have n7_ := Aside0.mk (hbox); have n8_ := ge_ HB hg; have n9_ := ge_ HB hg; have n10_ := nlt_ BK553 hg; have n11_ := ngt_ BK553 hg; have n12_ := nlt_ BK554 hg; have n13_ := ngt_ BK554 hg; have n14_ := nlt_ BK555 hg; have n15_ := ngt_ BK555 hg; have n16_ := nlt_ BK562 hg; have n17_ := ngt_ BK562 hg; clear HO559; clear HO566; clear BK553; clear BK554; clear BK555; clear BK562; clear HB; have HO559 := n0_; have HO566 := n1_; have BK553 := n2_; have BK554 := n3_; have BK555 := n4_; have BK562 := n5_; have HB := n6_; have BK569 := n7_; have GW569 := n8_; have GE569 := n9_; have NB553_569 := n10_; have NB569_553 := n11_; have NB554_569 := n12_; have NB569_554 := n13_; have NB555_569 := n14_; have NB569_555 := n15_; have NB562_569 := n16_; have NB569_562 := n17_; clear n0_ n1_ n2_ n3_ n4_ n5_ n6_ n7_ n8_ n9_ n10_ n11_ n12_ n13_ n14_ n15_ n16_ n17_; clear hb hbox hg; have hnb23 := NB569_553.out; have hnc23 := NB553_569.out; have hnb24 := NB569_554.out; have hnc24 := NB554_569.out; have hnb25 := NB569_555.out; have hnc25 := NB555_569.out; have hnb26 := NB569_562.out; have hnc26 := NB562_569.out; have hcz27_0 : w22.cell? ⟨gb569, 0, none⟩ = some (.bool false) := (blk_cell BK569.out 0).trans rfl; have hcz27_1 : w22.cell? ⟨gb569, 1, none⟩ = some (.slice none 0 0) := (blk_cell BK569.out 1).trans rfl; have hcz27_2 : w22.cell? ⟨gb569, 2, none⟩ = some (.int .i64 0) := (blk_cell BK569.out 2).trans rfl; have hfz27_0 := blk_frozen BK569.out 0; have hfz27_1 := blk_frozen BK569.out 1; have hfz27_2 := blk_frozen BK569.out 2; obtain ⟨Ao28, co28, eo28⟩ := Kd.R_slice HO566.out; subst eo28))
 (try simp only [Act.put, List.setIfInBounds_toArray, List.set_cons_zero, List.set_cons_succ])
 go_cut [25] (fun v25 wc => ∃ (kq : Nat) (x25_4 : Bool), v25 = .bool x25_4 ∧ Aside0 (r03_Mul.j0 kq x25_4 t556 t557 t560 t563 t564 t567 = some (r1, r2, r3, r4)) ∧ Aside0 (kq ≤ k) ∧ Aside0 (Kd.R (Kd.int .u32) 72 wc w.heap.size (fun k_ => some k_ ≠ ((.slice Ao28 t564.length co28) : Value).ownBlock) (.slice Ao18 t557.length co18) t557) ∧ Aside0 (Kd.R (Kd.int .u32) 72 wc w.heap.size (fun k_ => some k_ ≠ ((.slice Ao18 t557.length co18) : Value).ownBlock) (.slice Ao28 t564.length co28) t564) ∧ Aside0 (wc.heap[gb553]? = some (.cells #[.bool a0_0, (.slice A0_1 l0_1.length c0_1), .int .i64 a0_2] 43 (0, 0))) ∧ Aside0 (wc.heap[gb554]? = some (.cells #[.bool a1_0, (.slice A1_1 l1_1.length c1_1), .int .i64 a1_2] 43 (0, 0))) ∧ Aside0 (wc.heap[gb555]? = some (.cells #[.bool false, (.slice none 0 0), .int .i64 0] 43 (0, 0))) ∧ Aside0 (wc.heap[gb562]? = some (.cells #[.bool t556, (.slice Ao18 t557.length co18), .int .i64 t560] 43 (0, 0))) ∧ Aside0 (wc.heap[gb569]? = some (.cells #[.bool t563, (.slice Ao28 t564.length co28), .int .i64 t567] 43 (0, 0))) ∧ Aside0 (Below w.heap.size w wc))
 case first =>
  have H := HC5.out
  clear HC5
  by_cases c29 : t561 = true
  ·subst c29
   have H1 : (r03_Mul.j0 k (!t568) t556 t557 t560 t563 t564 t567) = some (r1, r2, r3, r4) := by rw [if_pos rfl] at H; exact H
   clear H
   have H := H1
   clear H1
   have H' := Aside0.mk H
   clear H
   go_wp2
   go_meet
   case rel => exact ⟨_, (!t568), (by first | rfl | (simp; done) | (simp [*]; done)), H', ⟨by first | omega | exact Nat.le_refl _⟩, ⟨by (with_reducible repeat (first | apply rA | apply rN | apply rD)); exact Kd.R_mono (Kd.R_far (p := ⟨gb569, 2, none⟩) (Kd.R_far (p := ⟨gb569, 1, none⟩) (Kd.R_far (p := ⟨gb569, 0, none⟩) (Kd.R_types HO559.out BK569.out (by decide)) (fun _ hk => hk.2) (.bool t563)) (fun _ hk => hk.2) (.slice Ao28 t564.length co28)) (fun _ hk => hk.2) (.int .i64 t567)) (fun _ hk => hk.1.2)⟩, ⟨by (with_reducible repeat (first | apply rA | apply rN | apply rD)); exact Kd.R_mono (Kd.R_far (p := ⟨gb569, 2, none⟩) (Kd.R_far (p := ⟨gb569, 1, none⟩) (Kd.R_far (p := ⟨gb569, 0, none⟩) (Kd.R_types HO566.out BK569.out (by decide)) (fun _ hk => hk.2) (.bool t563)) (fun _ hk => hk.2) (.slice Ao28 t564.length co28)) (fun _ hk => hk.2) (.int .i64 t567)) (fun _ hk => hk.1.2)⟩, ⟨by (with_reducible repeat (first | apply bN | apply bD | apply bA)); refine blk_far ?_ NB553_569.out _; (with_reducible repeat (first | apply bN | apply bD | apply bA)); refine blk_far ?_ NB553_569.out _; (with_reducible repeat (first | apply bN | apply bD | apply bA)); refine blk_far ?_ NB553_569.out _; exact bk_ BK553⟩, ⟨by (with_reducible repeat (first | apply bN | apply bD | apply bA)); refine blk_far ?_ NB554_569.out _; (with_reducible repeat (first | apply bN | apply bD | apply bA)); refine blk_far ?_ NB554_569.out _; (with_reducible repeat (first | apply bN | apply bD | apply bA)); refine blk_far ?_ NB554_569.out _; exact bk_ BK554⟩, ⟨by (with_reducible repeat (first | apply bN | apply bD | apply bA)); refine blk_far ?_ NB555_569.out _; (with_reducible repeat (first | apply bN | apply bD | apply bA)); refine blk_far ?_ NB555_569.out _; (with_reducible repeat (first | apply bN | apply bD | apply bA)); refine blk_far ?_ NB555_569.out _; exact bk_ BK555⟩, ⟨by (with_reducible repeat (first | apply bN | apply bD | apply bA)); refine blk_far ?_ NB562_569.out _; (with_reducible repeat (first | apply bN | apply bD | apply bA)); refine blk_far ?_ NB562_569.out _; (with_reducible repeat (first | apply bN | apply bD | apply bA)); refine blk_far ?_ NB562_569.out _; exact bk_ BK562⟩, ⟨by (with_reducible repeat (first | apply bN | apply bD | apply bA)); refine blk_put (cs := #[.bool t563, .slice Ao28 t564.length co28, .int .i64 0]) ?_ 2 _ rfl; (with_reducible repeat (first | apply bN | apply bD | apply bA)); refine blk_put (cs := #[.bool t563, .slice none 0 0, .int .i64 0]) ?_ 1 _ rfl; (with_reducible repeat (first | apply bN | apply bD | apply bA)); refine blk_put (cs := #[.bool false, .slice none 0 0, .int .i64 0]) ?_ 0 _ rfl; exact bk_ BK569⟩, ⟨bl_ HB⟩⟩
  ·replace c29 := Bool.eq_false_iff.mpr c29
   subst c29
   have H1 : (r03_Mul.j0 k true t556 t557 t560 t563 t564 t567) = some (r1, r2, r3, r4) := by rw [if_neg (show ¬ (false = true) by decide)] at H; exact H
   clear H
   have H := H1
   clear H1
   have H' := Aside0.mk H
   clear H
   go_wp2
   go_meet
   case rel => exact ⟨_, (true), (by first | rfl | (simp; done) | (simp [*]; done)), H', ⟨by first | omega | exact Nat.le_refl _⟩, ⟨by (with_reducible repeat (first | apply rA | apply rN | apply rD)); exact Kd.R_mono (Kd.R_far (p := ⟨gb569, 2, none⟩) (Kd.R_far (p := ⟨gb569, 1, none⟩) (Kd.R_far (p := ⟨gb569, 0, none⟩) (Kd.R_types HO559.out BK569.out (by decide)) (fun _ hk => hk.2) (.bool t563)) (fun _ hk => hk.2) (.slice Ao28 t564.length co28)) (fun _ hk => hk.2) (.int .i64 t567)) (fun _ hk => hk.1.2)⟩, ⟨by (with_reducible repeat (first | apply rA | apply rN | apply rD)); exact Kd.R_mono (Kd.R_far (p := ⟨gb569, 2, none⟩) (Kd.R_far (p := ⟨gb569, 1, none⟩) (Kd.R_far (p := ⟨gb569, 0, none⟩) (Kd.R_types HO566.out BK569.out (by decide)) (fun _ hk => hk.2) (.bool t563)) (fun _ hk => hk.2) (.slice Ao28 t564.length co28)) (fun _ hk => hk.2) (.int .i64 t567)) (fun _ hk => hk.1.2)⟩, ⟨by (with_reducible repeat (first | apply bN | apply bD | apply bA)); refine blk_far ?_ NB553_569.out _; (with_reducible repeat (first | apply bN | apply bD | apply bA)); refine blk_far ?_ NB553_569.out _; (with_reducible repeat (first | apply bN | apply bD | apply bA)); refine blk_far ?_ NB553_569.out _; exact bk_ BK553⟩, ⟨by (with_reducible repeat (first | apply bN | apply bD | apply bA)); refine blk_far ?_ NB554_569.out _; (with_reducible repeat (first | apply bN | apply bD | apply bA)); refine blk_far ?_ NB554_569.out _; (with_reducible repeat (first | apply bN | apply bD | apply bA)); refine blk_far ?_ NB554_569.out _; exact bk_ BK554⟩, ⟨by (with_reducible repeat (first | apply bN | apply bD | apply bA)); refine blk_far ?_ NB555_569.out _; (with_reducible repeat (first | apply bN | apply bD | apply bA)); refine blk_far ?_ NB555_569.out _; (with_reducible repeat (first | apply bN | apply bD | apply bA)); refine blk_far ?_ NB555_569.out _; exact bk_ BK555⟩, ⟨by (with_reducible repeat (first | apply bN | apply bD | apply bA)); refine blk_far ?_ NB562_569.out _; (with_reducible repeat (first | apply bN | apply bD | apply bA)); refine blk_far ?_ NB562_569.out _; (with_reducible repeat (first | apply bN | apply bD | apply bA)); refine blk_far ?_ NB562_569.out _; exact bk_ BK562⟩, ⟨by (with_reducible repeat (first | apply bN | apply bD | apply bA)); refine blk_put (cs := #[.bool t563, .slice Ao28 t564.length co28, .int .i64 0]) ?_ 2 _ rfl; (with_reducible repeat (first | apply bN | apply bD | apply bA)); refine blk_put (cs := #[.bool t563, .slice none 0 0, .int .i64 0]) ?_ 1 _ rfl; (with_reducible repeat (first | apply bN | apply bD | apply bA)); refine blk_put (cs := #[.bool false, .slice none 0 0, .int .i64 0]) ?_ 0 _ rfl; exact bk_ BK569⟩, ⟨bl_ HB⟩⟩
 case rest =>
  clear HC5
  try clear c1
  try clear c2
  try clear p2
  try clear c3
  try clear c5
  try clear c9
  try clear c10
  try clear c14
  try clear c15
  try clear c16
  try clear c19
  try clear c23
  try clear c24
  try clear c25
  try clear c26
  try clear c29
  try clear hcz11_0
  try clear hcz11_1
  try clear hcz11_2
  try clear hcz17_0
  try clear hcz17_1
  try clear hcz17_2
  try clear hcz20_0
  try clear hcz20_1
  try clear hcz20_2
  try clear hcz27_0
  try clear hcz27_1
  try clear hcz27_2
  try clear hfz11_0
  try clear hfz11_1
  try clear hfz11_2
  try clear hfz17_0
  try clear hfz17_1
  try clear hfz17_2
  try clear hfz20_0
  try clear hfz20_1
  try clear hfz20_2
  try clear hfz27_0
  try clear hfz27_1
  try clear hfz27_2
  obtain ⟨kq, x25_4, rfl, HA, HJ4, HO_563001, HO_570001, BK553, BK554, BK555, BK562, BK569, HB⟩ := hcut
  cases kq with
  | zero => exact absurd HA.out (by simp [r03_Mul.j0])
  | succ kj4 =>
   have H := HA.out
   clear HA
   simp only [r03_Mul.j0] at H
   by_cases c30 : x25_4 = true
   ·subst c30
    have H1 : (some (false, ([] : List Int), 0, 2)) = some (r1, r2, r3, r4) := by rw [if_pos rfl] at H; exact H
    clear H
    have H := H1
    clear H1
    simp only [Option.some.injEq, Prod.mk.injEq] at H
    obtain ⟨rfl, rfl, rfl, rfl⟩ := H
    have hnb31 := NB555_553.out
    have hnc31 := NB553_555.out
    have hnb32 := NB555_554.out
    have hnc32 := NB554_555.out
    have hnb33 := NB555_562.out
    have hnc33 := NB562_555.out
    have hnb34 := NB555_569.out
    have hnc34 := NB569_555.out
    have hcz35_0 : wc.cell? ⟨gb555, 0, none⟩ = some (.bool false) := (blk_cell BK555.out 0).trans rfl
    have hcz35_1 : wc.cell? ⟨gb555, 1, none⟩ = some (.slice none 0 0) := (blk_cell BK555.out 1).trans rfl
    have hcz35_2 : wc.cell? ⟨gb555, 2, none⟩ = some (.int .i64 0) := (blk_cell BK555.out 2).trans rfl
    have hfz35_0 := blk_frozen BK555.out 0
    have hfz35_1 := blk_frozen BK555.out 1
    have hfz35_2 := blk_frozen BK555.out 2
    go_wp2
    refine bodyPost_ret (results_ct rfl _ _ gb555 43 #[.bool false, .slice none 0 0, .int .i64 0] (0, 0) _ rfl (by (with_reducible repeat (first | apply bN | apply bD | apply bA)); refine blk_put (cs := #[.bool false, .slice none 0 0, .int .i64 0]) ?_ 2 _ rfl; (with_reducible repeat (first | apply bN | apply bD | apply bA)); refine blk_put (cs := #[.bool false, .slice none 0 0, .int .i64 0]) ?_ 1 _ rfl; (with_reducible repeat (first | apply bN | apply bD | apply bA)); refine blk_put (cs := #[.bool false, .slice none 0 0, .int .i64 0]) ?_ 0 _ rfl; exact bk_ BK555) Try.underlying43 rfl (by kernel_rfl)) rfl ?_
    exact ⟨_, by first | rfl | (simp [errW_none, errW_some] <;> rfl) | (simp [*, errW_none, errW_some] <;> rfl), by first | exact Kd.R_nil _ _ _ _ _ | exact Kd.N_nil _ _ _ _ _ | exact Kd.V_nil _ _ _ _ _ | exact Kd.Q_nil _ _ _ _ _ | exact Kd.S_nil _ _ _ _ _, bl_ HB⟩
   ·replace c30 := Bool.eq_false_iff.mpr c30
    subst c30
    have H1 : ((r02_Times.f kj4 t557 t564).bind fun t570 => ((r03_told.f kj4 (t556 != t563) t570 (wrap64 (t560 + t567))).bind fun bt573 => (some (bt573.1, bt573.2.1, bt573.2.2.1, bt573.2.2.2)))) = some (r1, r2, r3, r4) := by rw [if_neg (show ¬ (false = true) by decide)] at H; exact H
    clear H
    have H := H1
    clear H1
    obtain ⟨t570, A36, H⟩ := ob_ H
    try dsimp only at H
    obtain ⟨⟨t573, t574, t577, t578⟩, A37, H⟩ := ob_ H
    try dsimp only at H
    simp only [Option.some.injEq, Prod.mk.injEq] at H
    obtain ⟨rfl, rfl, rfl, rfl⟩ := H
    try go_wp2
    have n0_ := Aside0.mk (Kd.R_drew HO_563001.out)
    have n1_ := Aside0.mk (Kd.R_drew HO_570001.out)
    have n2_ := Aside0.mk (blk_drew BK553.out)
    have n3_ := Aside0.mk (blk_drew BK554.out)
    have n4_ := Aside0.mk (blk_drew BK555.out)
    have n5_ := Aside0.mk (blk_drew BK562.out)
    have n6_ := Aside0.mk (blk_drew BK569.out)
    have n7_ := Aside0.mk (below_drew1 HB.out)
    clear HO_563001
    clear HO_570001
    clear BK553
    clear BK554
    clear BK555
    clear BK562
    clear BK569
    clear HB
    have HO_563001 := n0_
    have HO_570001 := n1_
    have BK553 := n2_
    have BK554 := n3_
    have BK555 := n4_
    have BK562 := n5_
    have BK569 := n6_
    have HB := n7_
    clear n0_ n1_ n2_ n3_ n4_ n5_ n6_ n7_
    refine start_ (n := 20) (S := fun w' => w'.cell? ⟨gb562, 0, none⟩ = some (.bool t556) ∧ w'.cell? ⟨gb562, 1, none⟩ = some (.slice Ao18 t557.length co18) ∧ w'.cell? ⟨gb562, 2, none⟩ = some (.int .i64 t560) ∧ w'.cell? ⟨gb569, 0, none⟩ = some (.bool t563) ∧ w'.cell? ⟨gb569, 1, none⟩ = some (.slice Ao28 t564.length co28) ∧ w'.cell? ⟨gb569, 2, none⟩ = some (.int .i64 t567)) (ds := []) #[false, false, false, false, false, false, false, false, false, false, false, false, false, false, false, false, false, false, false, false] (by kernel_rfl) rfl rfl ⟨(blk_cell BK562.out 0).trans rfl, (blk_cell BK562.out 1).trans rfl, (blk_cell BK562.out 2).trans rfl, (blk_cell BK569.out 0).trans rfl, (blk_cell BK569.out 1).trans rfl, (blk_cell BK569.out 2).trans rfl⟩ (fun hHeld => ?_); refine with_tabW r03_Mul.tab5 r03_Mul.bits5 (fun HT_ HW_ => ?_)
    generalize wc.drew = w38 at HO_563001 HO_570001 BK553 BK554 BK555 BK562 BK569 HB hHeld ⊢
    refine pure_ (i := 0) (N := some 27) (v := ?_) (a' := ?_) #[true, false, false, false, false, false, false, false, false, false, false, false, false, false, false, false, false, false, false, false] rfl rfl (any_of HT_.out (by kernel_rfl)) (fun _ _ _ h => h) (Or.inl ⟨by rfl, ?_⟩) ?_ ?_
    rotate_left
    ·intro w'
     go_simp
     with_reducible rfl
    rotate_left
    ·simp only [Act.put, List.setIfInBounds_toArray, List.set_cons_zero, List.set_cons_succ, i64_w, i32_w]
     rfl
    refine pure_ (i := 2) (N := some 29) (v := ?_) (a' := ?_) #[true, false, true, false, false, false, false, false, false, false, false, false, false, false, false, false, false, false, false, false] rfl rfl (any_of HT_.out (by kernel_rfl)) (fun _ _ _ h => h) (Or.inl ⟨by rfl, ?_⟩) ?_ ?_
    rotate_left
    ·intro w'
     go_simp
     with_reducible rfl
    rotate_left
    ·simp only [Act.put, List.setIfInBounds_toArray, List.set_cons_zero, List.set_cons_succ, i64_w, i32_w]
     rfl
    refine pure_ (i := 5) (N := some 32) (v := ?_) (a' := ?_) #[true, false, true, false, false, true, false, false, false, false, false, false, false, false, false, false, false, false, false, false] rfl rfl (any_of HT_.out (by kernel_rfl)) (fun _ _ _ h => h) (Or.inl ⟨by rfl, ?_⟩) ?_ ?_
    rotate_left
    ·intro w'
     go_simp
     with_reducible rfl
    rotate_left
    ·simp only [Act.put, List.setIfInBounds_toArray, List.set_cons_zero, List.set_cons_succ, i64_w, i32_w]
     rfl
    refine pure_ (i := 7) (N := some 34) (v := ?_) (a' := ?_) #[true, false, true, false, false, true, false, true, false, false, false, false, false, false, false, false, false, false, false, false] rfl rfl (any_of HT_.out (by kernel_rfl)) (fun _ _ _ h => h) (Or.inl ⟨by rfl, ?_⟩) ?_ ?_
    rotate_left
    ·intro w'
     go_simp
     with_reducible rfl
    rotate_left
    ·simp only [Act.put, List.setIfInBounds_toArray, List.set_cons_zero, List.set_cons_succ, i64_w, i32_w]
     rfl
    refine pure_ (i := 10) (N := some 37) (v := ?_) (a' := ?_) #[true, false, true, false, false, true, false, true, false, false, true, false, false, false, false, false, false, false, false, false] rfl rfl (any_of HT_.out (by kernel_rfl)) (fun _ _ _ h => h) (Or.inl ⟨by rfl, ?_⟩) ?_ ?_
    rotate_left
    ·intro w'
     go_simp
     with_reducible rfl
    rotate_left
    ·simp only [Act.put, List.setIfInBounds_toArray, List.set_cons_zero, List.set_cons_succ, i64_w, i32_w]
     rfl
    refine pure_ (i := 12) (N := some 39) (v := ?_) (a' := ?_) #[true, false, true, false, false, true, false, true, false, false, true, false, true, false, false, false, false, false, false, false] rfl rfl (any_of HT_.out (by kernel_rfl)) (fun _ _ _ h => h) (Or.inl ⟨by rfl, ?_⟩) ?_ ?_
    rotate_left
    ·intro w'
     go_simp
     with_reducible rfl
    rotate_left
    ·simp only [Act.put, List.setIfInBounds_toArray, List.set_cons_zero, List.set_cons_succ, i64_w, i32_w]
     rfl
    refine take_ (i := 1) (N := some 28) (v := ?_) (a' := ?_) #[true, true, true, false, false, true, false, true, false, false, true, false, true, false, false, false, false, false, false, false] rfl rfl (take_ofW HT_.out HW_.out (by kernel_rfl)) (fun _ _ _ h => h) (Or.inl ⟨by rfl, ?_⟩) hHeld ?_ ?_
    rotate_left
    ·rintro w' ⟨s0, s1, s2, s3, s4, s5⟩
     go_simp
     with_reducible rfl
    rotate_left
    ·simp only [Act.put, List.setIfInBounds_toArray, List.set_cons_zero, List.set_cons_succ, i64_w, i32_w]
     rfl
    refine take_ (i := 3) (N := some 30) (v := ?_) (a' := ?_) #[true, true, true, true, false, true, false, true, false, false, true, false, true, false, false, false, false, false, false, false] rfl rfl (take_ofW HT_.out HW_.out (by kernel_rfl)) (fun _ _ _ h => h) (Or.inl ⟨by rfl, ?_⟩) hHeld ?_ ?_
    rotate_left
    ·rintro w' ⟨s0, s1, s2, s3, s4, s5⟩
     go_simp
     with_reducible rfl
    rotate_left
    ·simp only [Act.put, List.setIfInBounds_toArray, List.set_cons_zero, List.set_cons_succ, i64_w, i32_w]
     rfl
    refine pure_ (i := 4) (N := some 31) (v := ?_) (a' := ?_) #[true, true, true, true, true, true, false, true, false, false, true, false, true, false, false, false, false, false, false, false] rfl rfl (any_of HT_.out (by kernel_rfl)) (fun _ _ _ h => h) (Or.inl ⟨by rfl, ?_⟩) ?_ ?_
    rotate_left
    ·intro w'
     go_simp
     with_reducible rfl
    rotate_left
    ·simp only [Act.put, List.setIfInBounds_toArray, List.set_cons_zero, List.set_cons_succ, i64_w, i32_w]
     rfl
    refine take_ (i := 6) (N := some 33) (v := ?_) (a' := ?_) #[true, true, true, true, true, true, true, true, false, false, true, false, true, false, false, false, false, false, false, false] rfl rfl (take_ofW HT_.out HW_.out (by kernel_rfl)) (fun _ _ _ h => h) (Or.inl ⟨by rfl, ?_⟩) hHeld ?_ ?_
    rotate_left
    ·rintro w' ⟨s0, s1, s2, s3, s4, s5⟩
     go_simp
     with_reducible rfl
    rotate_left
    ·simp only [Act.put, List.setIfInBounds_toArray, List.set_cons_zero, List.set_cons_succ, i64_w, i32_w]
     rfl
    refine take_ (i := 8) (N := some 35) (v := ?_) (a' := ?_) #[true, true, true, true, true, true, true, true, true, false, true, false, true, false, false, false, false, false, false, false] rfl rfl (take_ofW HT_.out HW_.out (by kernel_rfl)) (fun _ _ _ h => h) (Or.inl ⟨by rfl, ?_⟩) hHeld ?_ ?_
    rotate_left
    ·rintro w' ⟨s0, s1, s2, s3, s4, s5⟩
     go_simp
     with_reducible rfl
    rotate_left
    ·simp only [Act.put, List.setIfInBounds_toArray, List.set_cons_zero, List.set_cons_succ, i64_w, i32_w]
     rfl
    refine take_ (i := 11) (N := some 38) (v := ?_) (a' := ?_) #[true, true, true, true, true, true, true, true, true, false, true, true, true, false, false, false, false, false, false, false] rfl rfl (take_ofW HT_.out HW_.out (by kernel_rfl)) (fun _ _ _ h => h) (Or.inl ⟨by rfl, ?_⟩) hHeld ?_ ?_
    rotate_left
    ·rintro w' ⟨s0, s1, s2, s3, s4, s5⟩
     go_simp
     with_reducible rfl
    rotate_left
    ·simp only [Act.put, List.setIfInBounds_toArray, List.set_cons_zero, List.set_cons_succ, i64_w, i32_w]
     rfl
    refine take_ (i := 13) (N := some 40) (v := ?_) (a' := ?_) #[true, true, true, true, true, true, true, true, true, false, true, true, true, true, false, false, false, false, false, false] rfl rfl (take_ofW HT_.out HW_.out (by kernel_rfl)) (fun _ _ _ h => h) (Or.inl ⟨by rfl, ?_⟩) hHeld ?_ ?_
    rotate_left
    ·rintro w' ⟨s0, s1, s2, s3, s4, s5⟩
     go_simp
     with_reducible rfl
    rotate_left
    ·simp only [Act.put, List.setIfInBounds_toArray, List.set_cons_zero, List.set_cons_succ, i64_w, i32_w]
     rfl
    refine pure_ (i := 14) (N := some 41) (v := ?_) (a' := ?_) #[true, true, true, true, true, true, true, true, true, false, true, true, true, true, true, false, false, false, false, false] rfl rfl (any_of HT_.out (by kernel_rfl)) (fun _ _ _ h => h) (Or.inl ⟨by rfl, ?_⟩) ?_ ?_
    rotate_left
    ·intro w'
     go_simp
     with_reducible rfl
    rotate_left
    ·simp only [Act.put, List.setIfInBounds_toArray, List.set_cons_zero, List.set_cons_succ, i64_w, i32_w]
     rfl
    refine one_ (i := 9) (N := some 36) #[true, true, true, true, true, true, true, true, true, true, true, true, true, true, true, false, false, false, false, false] rfl rfl (one_of HT_.out (by kernel_rfl)) (by decide) (fun K hK => ?_)
    refine goes_ Try.func63 (by kernel_rfl) rfl #[.slice Ao18 t557.length co18, .slice Ao28 t564.length co28] (by rfl) rfl rfl (by (try simp only [List.map_toArray, List.map_cons, List.map_nil]); first | done | rfl | (simp only [List.length_drop, List.length_take]; rfl)) ?_
    with_reducible refine (r02_Times.calls kj4 _ _ t557 _ _ t564 t570 _ ?side1 ?side2 ?side3 ?side4 A36.out).mono ?_
    (case side1 => repeat (first | exact (Kd.R_reads' HO_563001.out).2.2 | (with_reducible first | apply cA | apply cN | apply cD)))
    (case side2 => exact (Kd.R_reads' HO_563001.out).2.1)
    (case side3 => repeat (first | exact (Kd.R_reads' HO_570001.out).2.2 | (with_reducible first | apply cA | apply cN | apply cD)))
    (case side4 => exact (Kd.R_reads' HO_570001.out).2.1)
    rintro e w39 ⟨v571, rfl, ho0, hb⟩
    refine ⟨_, rfl, ?_⟩
    have n0_ := Aside0.mk (Kd.R_elder' (rr_ HO_563001) (Kd.R_base ho0) hb)
    have n1_ := Aside0.mk (Kd.R_elder' (rr_ HO_570001) (Kd.R_base ho0) hb)
    have n2_ := Aside0.mk (Kd.R_lower (Kd.R_new' (Kd.R_new' ho0 (Kd.R_lt (rr_ HO_563001))) (Kd.R_lt (rr_ HO_570001))) (below_size (bl_ HB)))
    have n3_ := kb_ BK553 hb
    have n4_ := kb_ BK554 hb
    have n5_ := kb_ BK555 hb
    have n6_ := kb_ BK562 hb
    have n7_ := kb_ BK569 hb
    have n8_ := bs_ HB hb
    clear HO_563001
    clear HO_570001
    clear BK553
    clear BK554
    clear BK555
    clear BK562
    clear BK569
    clear HB
    have HO_563001 := n0_
    have HO_570001 := n1_
    have HO572 := n2_
    have BK553 := n3_
    have BK554 := n4_
    have BK555 := n5_
    have BK562 := n6_
    have BK569 := n7_
    have HB := n8_
    clear n0_ n1_ n2_ n3_ n4_ n5_ n6_ n7_ n8_
    (try clear hb)
    (try clear hb2)
    (try clear hk)
    (try clear hi)
    (try clear ho0)
    obtain ⟨Ao40, co40, eo40⟩ := Kd.R_slice HO572.out
    (first | subst eo40 | (injection eo40 with f1_ f2_ f3_; have f4_ := f1_.symm; have f5_ := f3_.symm; clear f1_ f2_ f3_; subst f4_; subst f5_))
    refine hK.out _ _ ⟨(blk_cell BK562.out 0).trans rfl, (blk_cell BK562.out 1).trans rfl, (blk_cell BK562.out 2).trans rfl, (blk_cell BK569.out 0).trans rfl, (blk_cell BK569.out 1).trans rfl, (blk_cell BK569.out 2).trans rfl⟩ (fun hHeld => ?_)
    clear hK K
    refine norm_ (a' := ?_) ?_ ?_
    rotate_left
    ·show Act.put _ (some 36) _ = _
     simp only [Act.put, List.setIfInBounds_toArray, List.set_cons_zero, List.set_cons_succ, i64_w, i32_w]
     rfl
    refine one_ (i := 15) (N := some 42) #[true, true, true, true, true, true, true, true, true, true, true, true, true, true, true, true, false, false, false, false] rfl rfl (one_of HT_.out (by kernel_rfl)) (by decide) (fun K hK => ?_)
    refine goes_ Try.func59 (by kernel_rfl) rfl #[.bool (t556 != t563), .slice Ao40 t570.length co40, .int .i64 (wrap64 (t560 + t567))] (by rfl) rfl rfl (by (try simp only [List.map_toArray, List.map_cons, List.map_nil]); first | done | rfl | (simp only [List.length_drop, List.length_take]; rfl)) ?_
    with_reducible refine (r03_told.calls kj4 (t556 != t563) _ _ t570 (wrap64 (t560 + t567)) t573 t574 t577 t578 _ ?side1 ?side2 A37.out).mono ?_
    (case side1 => repeat (first | exact (Kd.R_reads' HO572.out).2.2 | (with_reducible first | apply cA | apply cN | apply cD)))
    (case side2 => exact (Kd.R_reads' HO572.out).2.1)
    rintro e w41 ⟨v575, rfl, ho0, hb⟩
    refine ⟨_, rfl, ?_⟩
    have n0_ := Aside0.mk (Kd.R_elder' (rr_ HO_563001) (Kd.R_base ho0) hb)
    have n1_ := Aside0.mk (Kd.R_elder' (rr_ HO_570001) (Kd.R_base ho0) hb)
    have n2_ := Aside0.mk (Kd.R_elder' (rr_ HO572) (Kd.R_base ho0) hb)
    have n3_ := Aside0.mk (Kd.R_lower (Kd.R_new' (Kd.R_new' (Kd.R_new' ho0 (Kd.R_lt (rr_ HO_563001))) (Kd.R_lt (rr_ HO_570001))) (Kd.R_lt (rr_ HO572))) (below_size (bl_ HB)))
    have n4_ := kb_ BK553 hb
    have n5_ := kb_ BK554 hb
    have n6_ := kb_ BK555 hb
    have n7_ := kb_ BK562 hb
    have n8_ := kb_ BK569 hb
    have n9_ := bs_ HB hb
    clear HO_563001
    clear HO_570001
    clear HO572
    clear BK553
    clear BK554
    clear BK555
    clear BK562
    clear BK569
    clear HB
    have HO_563001 := n0_
    have HO_570001 := n1_
    have HO572 := n2_
    have HO576 := n3_
    have BK553 := n4_
    have BK554 := n5_
    have BK555 := n6_
    have BK562 := n7_
    have BK569 := n8_
    have HB := n9_
    clear n0_ n1_ n2_ n3_ n4_ n5_ n6_ n7_ n8_ n9_
    (try clear hb)
    (try clear hb2)
    (try clear hk)
    (try clear hi)
    (try clear ho0)
    obtain ⟨Ao43, co43, eo43⟩ := Kd.R_slice HO576.out
    (first | subst eo43 | (injection eo43 with f1_ f2_ f3_; have f4_ := f1_.symm; have f5_ := f3_.symm; clear f1_ f2_ f3_; subst f4_; subst f5_))
    refine hK.out _ _ ⟨(blk_cell BK562.out 0).trans rfl, (blk_cell BK562.out 1).trans rfl, (blk_cell BK562.out 2).trans rfl, (blk_cell BK569.out 0).trans rfl, (blk_cell BK569.out 1).trans rfl, (blk_cell BK569.out 2).trans rfl⟩ (fun hHeld => ?_)
    clear hK K
    refine norm_ (a' := ?_) ?_ ?_
    rotate_left
    ·show Act.put _ (some 42) _ = _
     simp only [Act.put, List.setIfInBounds_toArray, List.set_cons_zero, List.set_cons_succ, i64_w, i32_w]
     rfl
    refine pure_ (i := 16) (N := some 43) (v := ?_) (a' := ?_) #[true, true, true, true, true, true, true, true, true, true, true, true, true, true, true, true, true, false, false, false] rfl rfl (any_of HT_.out (by kernel_rfl)) (fun _ _ _ h => h) (Or.inl ⟨by rfl, ?_⟩) ?_ ?_
    rotate_left
    ·intro w'
     go_simp
     with_reducible rfl
    rotate_left
    ·simp only [Act.put, List.setIfInBounds_toArray, List.set_cons_zero, List.set_cons_succ, i64_w, i32_w]
     rfl
    refine pure_ (i := 17) (N := some 44) (v := ?_) (a' := ?_) #[true, true, true, true, true, true, true, true, true, true, true, true, true, true, true, true, true, true, false, false] rfl rfl (any_of HT_.out (by kernel_rfl)) (fun _ _ _ h => h) (Or.inl ⟨by rfl, ?_⟩) ?_ ?_
    rotate_left
    ·intro w'
     go_simp
     with_reducible rfl
    rotate_left
    ·simp only [Act.put, List.setIfInBounds_toArray, List.set_cons_zero, List.set_cons_succ, i64_w, i32_w]
     rfl
    refine one_ (i := 18) (N := none) #[true, true, true, true, true, true, true, true, true, true, true, true, true, true, true, true, true, true, true, false] rfl rfl (one_of HT_.out (by kernel_rfl)) (by decide) (fun K hK => ?_)
    have hs42 : w41.cell? ⟨gb555, 0, none⟩ = some (.bool false) := (blk_cell BK555.out 0).trans rfl
    have hfs42 := blk_frozen BK555.out 0
    have hns42_0 := NB553_555.out
    have hns42_1 := NB554_555.out
    have hns42_3 := NB562_555.out
    have hns42_4 := NB569_555.out
    have hms42_0 := NB555_553.out
    have hms42_1 := NB555_554.out
    have hms42_3 := NB555_562.out
    have hms42_4 := NB555_569.out
    have hs44 : w41.cell? ⟨gb555, 1, none⟩ = some (.slice none 0 0) := (blk_cell BK555.out 1).trans rfl
    have hfs44 := blk_frozen BK555.out 1
    have hns44_0 := NB553_555.out
    have hns44_1 := NB554_555.out
    have hns44_3 := NB562_555.out
    have hns44_4 := NB569_555.out
    have hms44_0 := NB555_553.out
    have hms44_1 := NB555_554.out
    have hms44_3 := NB555_562.out
    have hms44_4 := NB555_569.out
    have hs45 : w41.cell? ⟨gb555, 2, none⟩ = some (.int .i64 0) := (blk_cell BK555.out 2).trans rfl
    have hfs45 := blk_frozen BK555.out 2
    have hns45_0 := NB553_555.out
    have hns45_1 := NB554_555.out
    have hns45_3 := NB562_555.out
    have hns45_4 := NB569_555.out
    have hms45_0 := NB555_553.out
    have hms45_1 := NB555_554.out
    have hms45_3 := NB555_562.out
    have hms45_4 := NB555_569.out
    refine skip_ (w1 := ?_) (by rfl) rfl ?_ ?_
    rotate_left
    ·go_simp
     rfl
    refine hK.out _ _ ⟨((cell_far (p := ⟨gb555, _, none⟩) NB562_555.out _).trans (((cell_far (p := ⟨gb555, _, none⟩) NB562_555.out _).trans (((cell_far (p := ⟨gb555, _, none⟩) NB562_555.out _).trans (hHeld.1)))))), ((cell_far (p := ⟨gb555, _, none⟩) NB562_555.out _).trans (((cell_far (p := ⟨gb555, _, none⟩) NB562_555.out _).trans (((cell_far (p := ⟨gb555, _, none⟩) NB562_555.out _).trans (hHeld.2.1)))))), ((cell_far (p := ⟨gb555, _, none⟩) NB562_555.out _).trans (((cell_far (p := ⟨gb555, _, none⟩) NB562_555.out _).trans (((cell_far (p := ⟨gb555, _, none⟩) NB562_555.out _).trans (hHeld.2.2.1)))))), ((cell_far (p := ⟨gb555, _, none⟩) NB569_555.out _).trans (((cell_far (p := ⟨gb555, _, none⟩) NB569_555.out _).trans (((cell_far (p := ⟨gb555, _, none⟩) NB569_555.out _).trans (hHeld.2.2.2.1)))))), ((cell_far (p := ⟨gb555, _, none⟩) NB569_555.out _).trans (((cell_far (p := ⟨gb555, _, none⟩) NB569_555.out _).trans (((cell_far (p := ⟨gb555, _, none⟩) NB569_555.out _).trans (hHeld.2.2.2.2.1)))))), ((cell_far (p := ⟨gb555, _, none⟩) NB569_555.out _).trans (((cell_far (p := ⟨gb555, _, none⟩) NB569_555.out _).trans (((cell_far (p := ⟨gb555, _, none⟩) NB569_555.out _).trans (hHeld.2.2.2.2.2))))))⟩ (fun hHeld => ?_)
    clear hK K
    refine pure_ (i := 19) (N := some 5) (v := ?_) (a' := ?_) #[true, true, true, true, true, true, true, true, true, true, true, true, true, true, true, true, true, true, true, true] rfl rfl (any_of HT_.out (by kernel_rfl)) (fun _ _ _ h => h) (Or.inl ⟨by rfl, ?_⟩) ?_ ?_
    rotate_left
    ·intro w'
     go_simp
     with_reducible rfl
    rotate_left
    ·simp only [Act.put, List.setIfInBounds_toArray, List.set_cons_zero, List.set_cons_succ, i64_w, i32_w]
     rfl
    refine done_ (done_of HT_.out (by kernel_rfl)) ?_
    try go_wp2
    refine bodyPost_ret (results_ct rfl _ _ gb555 43 #[.bool t573, .slice Ao43 t574.length co43, .int .i64 t577] (0, 0) _ rfl (by (with_reducible repeat (first | apply bN | apply bD | apply bA)); refine blk_put (cs := #[.bool t573, .slice Ao43 t574.length co43, .int .i64 0]) ?_ 2 _ rfl; (with_reducible repeat (first | apply bN | apply bD | apply bA)); refine blk_put (cs := #[.bool t573, .slice none 0 0, .int .i64 0]) ?_ 1 _ rfl; (with_reducible repeat (first | apply bN | apply bD | apply bA)); refine blk_put (cs := #[.bool false, .slice none 0 0, .int .i64 0]) ?_ 0 _ rfl; exact bk_ BK555) Try.underlying43 rfl (by kernel_rfl)) rfl ?_
    exact ⟨_, by first | rfl | (simp [errW_none, errW_some] <;> rfl) | (simp [*, errW_none, errW_some] <;> rfl), by (with_reducible repeat (first | apply rA | apply rN | apply rD)); exact Kd.R_mono (Kd.R_far (p := ⟨gb555, 2, none⟩) (Kd.R_far (p := ⟨gb555, 1, none⟩) (Kd.R_far (p := ⟨gb555, 0, none⟩) (Kd.R_types HO576.out BK555.out (by decide)) (fun _ hk => hk.2) (.bool t573)) (fun _ hk => hk.2) (.slice Ao43 t574.length co43)) (fun _ hk => hk.2) (.int .i64 t577)) (fun _ hk => trivial), bl_ HB⟩

end Go.Proofs.Ytdemanikmaafeaa.Pr
-- written by this session's own program (wip/fprint.py), which widens the kit's print by floats
namespace Go.Proofs.Ytdemanikmaafeaa.Pr
open Go.RowKit Go.Proofs.YtdemanikmaafeaaW.PrintWords Go.Proofs.YtdemanikmaafeaaW.PrintLast Go.Proofs.YtdemanikmaafeaaW.PrintMore
attribute [local go_sem] max2_int min2_int max_two min_two max_three min_three max_four min_four   -- for this text's walks alone
set_option linter.unusedVariables false
set_option linter.unusedSimpArgs false

/-! ### l05_products: function 32 -/
def l05_products.j0 : Nat → Nat → Nat → Bool → Bool → List Int → Int → Option (Bool)
 | 0, _, _, _, _, _, _ => none
 | k + 1, x0, x1, x52, x829000, x829001, x829002 => if x52 = true then (some true) else ((pair_Product.f x0 x1).bind fun bt841 => ((l05_just.f k bt841.1 bt841.2 x829000 x829001 x829002).bind fun t843 => (some t843)))
def l05_products.f (k : Nat) (a0 : Nat) (a1 : Nat) (a2_0 : Bool) (l2_1 : List Int) (a2_2 : Int) (a3_0 : Bool) (l3_1 : List Int) (a3_2 : Int) : Option (Bool) := (r03_Mul.f k a2_0 l2_1 a2_2 a3_0 l3_1 a3_2).bind fun bt822 => ((l05_within.f k a2_0 l2_1 a2_2 995).bind fun t829 => ((l05_within.f k a3_0 l3_1 a3_2 995).bind fun t830 => ((l05_within.f k bt822.1 bt822.2.1 bt822.2.2.1 1021).bind fun t831 => ((l05_size.f bt822.1 bt822.2.1 bt822.2.2.1).bind fun bt832 => ((r03_Cmp.f k bt832.1 bt832.2.1 bt832.2.2 false (([1] : List Int)) (-969)).bind fun t840 => (if t829 = true then (if t830 = true then (if t831 = true then (if t840 ≥ 0 then (l05_products.j0 k a0 a1 false bt822.1 bt822.2.1 bt822.2.2.1) else (l05_products.j0 k a0 a1 (decide ((bt822.2.1.length : Int) > 0)) bt822.1 bt822.2.1 bt822.2.2.1)) else (l05_products.j0 k a0 a1 true bt822.1 bt822.2.1 bt822.2.2.1)) else (l05_products.j0 k a0 a1 true bt822.1 bt822.2.1 bt822.2.2.1)) else (l05_products.j0 k a0 a1 true bt822.1 bt822.2.1 bt822.2.2.1)))))))
theorem l05_products.mono_l : ∀ k, (∀ y0 y1 y2 y3 y4 y5, LeO (l05_products.j0 k y0 y1 y2 y3 y4 y5) (l05_products.j0 (k + 1) y0 y1 y2 y3 y4 y5))
 | 0 => fun _ _ _ _ _ _ r h => by simp [l05_products.j0] at h
 | k + 1 => by
  have ih0 := l05_products.mono_l k
  ·intro y0 y1 y2 y3 y4 y5
   unfold l05_products.j0
   repeat' first
   | (with_reducible exact ih0 _ _ _ _ _ _)
   | (with_reducible exact l05_just.mono _ _ _ _ _ _)
   | (with_reducible exact l05_within.mono _ _ _ _ _)
   | (with_reducible exact r03_Cmp.mono _ _ _ _ _ _ _)
   | (with_reducible exact r03_Mul.mono _ _ _ _ _ _ _)
   | (with_reducible exact LeO.refl _)
   | (with_reducible exact LeO.none _)
   | (with_reducible refine LeO.ite ?_ ?_)
   | (with_reducible refine LeO.bind ?_ (fun _ => ?_))
   | exact ih0 _ _ _ _ _ _
   | exact l05_just.mono _ _ _ _ _ _
   | exact l05_within.mono _ _ _ _ _
   | exact r03_Cmp.mono _ _ _ _ _ _ _
   | exact r03_Mul.mono _ _ _ _ _ _ _
   | exact LeO.none _
   | refine LeO.ite ?_ ?_
   | refine LeO.bind ?_ (fun _ => ?_)
theorem l05_products.mono : ∀ a0 a1 a2 a3 a4 a5 a6 a7 k, LeO (l05_products.f k a0 a1 a2 a3 a4 a5 a6 a7) (l05_products.f (k + 1) a0 a1 a2 a3 a4 a5 a6 a7) := by
 intro a0 a1 a2 a3 a4 a5 a6 a7 k
 have ih0 := l05_products.mono_l k
 unfold l05_products.f
 repeat' first
   | (with_reducible exact ih0 _ _ _ _ _ _)
   | (with_reducible exact l05_just.mono _ _ _ _ _ _)
   | (with_reducible exact l05_within.mono _ _ _ _ _)
   | (with_reducible exact r03_Cmp.mono _ _ _ _ _ _ _)
   | (with_reducible exact r03_Mul.mono _ _ _ _ _ _ _)
   | (with_reducible exact LeO.refl _)
   | (with_reducible exact LeO.none _)
   | (with_reducible refine LeO.ite ?_ ?_)
   | (with_reducible refine LeO.bind ?_ (fun _ => ?_))
   | exact ih0 _ _ _ _ _ _
   | exact l05_just.mono _ _ _ _ _ _
   | exact l05_within.mono _ _ _ _ _
   | exact r03_Cmp.mono _ _ _ _ _ _ _
   | exact r03_Mul.mono _ _ _ _ _ _ _
   | exact LeO.none _
   | refine LeO.ite ?_ ?_
   | refine LeO.bind ?_ (fun _ => ?_)
set_option maxHeartbeats 3000000 in
set_option maxRecDepth 100000 in
theorem l05_products.calls (k : Nat) (a0 : Nat) (a1 : Nat) (a2_0 : Bool) (A2_1 : Option Addr) (c2_1 : Nat) (l2_1 : List Int) (a2_2 : Int) (a3_0 : Bool) (A3_1 : Option Addr) (c3_1 : Nat) (l3_1 : List Int) (a3_2 : Int) (r : Bool) (w : World) (hr2_1 : Kd.C (Kd.int .u32) w A2_1 l2_1.length l2_1) (hc2_1 : l2_1.length ≤ c2_1) (hr3_1 : Kd.C (Kd.int .u32) w A3_1 l3_1.length l3_1) (hc3_1 : l3_1.length ≤ c3_1) (h : l05_products.f k a0 a1 a2_0 l2_1 a2_2 a3_0 l3_1 a3_2 = some r) :
  Calls Try.prog 32 #[.float .f64 a0, .float .f64 a1, .agg #[.bool a2_0, .slice A2_1 l2_1.length c2_1, .int .i64 a2_2], .agg #[.bool a3_0, .slice A3_1 l3_1.length c3_1, .int .i64 a3_2]] w fun e w' => e = .returned (.bool r) ∧ Below w.heap.size w w' := by
 have hu43 := Try.underlying43
 have HR2_1 := Aside0.mk hr2_1
 have HC2_1 := Aside0.mk hc2_1
 clear hr2_1 hc2_1
 have HR3_1 := Aside0.mk hr3_1
 have HC3_1 := Aside0.mk hc3_1
 clear hr3_1 hc3_1
 have HB := Aside0.mk (Below.refl w.heap.size w)
 have H : ((r03_Mul.f k a2_0 l2_1 a2_2 a3_0 l3_1 a3_2).bind fun bt822 => ((l05_within.f k a2_0 l2_1 a2_2 995).bind fun t829 => ((l05_within.f k a3_0 l3_1 a3_2 995).bind fun t830 => ((l05_within.f k bt822.1 bt822.2.1 bt822.2.2.1 1021).bind fun t831 => ((l05_size.f bt822.1 bt822.2.1 bt822.2.2.1).bind fun bt832 => ((r03_Cmp.f k bt832.1 bt832.2.1 bt832.2.2 false (([1] : List Int)) (-969)).bind fun t840 => (if t829 = true then (if t830 = true then (if t831 = true then (if t840 ≥ 0 then (l05_products.j0 k a0 a1 false bt822.1 bt822.2.1 bt822.2.2.1) else (l05_products.j0 k a0 a1 (decide ((bt822.2.1.length : Int) > 0)) bt822.1 bt822.2.1 bt822.2.2.1)) else (l05_products.j0 k a0 a1 true bt822.1 bt822.2.1 bt822.2.2.1)) else (l05_products.j0 k a0 a1 true bt822.1 bt822.2.1 bt822.2.2.1)) else (l05_products.j0 k a0 a1 true bt822.1 bt822.2.1 bt822.2.2.1)))))))) = some r := h
 clear h
 obtain ⟨⟨t822, t823, t826, t827⟩, A5, H⟩ := ob_ H
 try dsimp only at H
 obtain ⟨t829, A6, H⟩ := ob_ H
 try dsimp only at H
 obtain ⟨t830, A7, H⟩ := ob_ H
 try dsimp only at H
 obtain ⟨t831, A8, H⟩ := ob_ H
 try dsimp only at H
 obtain ⟨⟨t832, t833, t836⟩, A9, H⟩ := ob_ H
 try dsimp only at H
 obtain ⟨y837, hy837⟩ : ∃ y_ : List Int, y_ = (([1] : List Int)) := ⟨_, rfl⟩
 replace H : ((r03_Cmp.f k t832 t833 t836 false y837 (-969)).bind fun t840 => (if t829 = true then (if t830 = true then (if t831 = true then (if t840 ≥ 0 then (l05_products.j0 k a0 a1 false t822 t823 t826) else (l05_products.j0 k a0 a1 (decide ((t823.length : Int) > 0)) t822 t823 t826)) else (l05_products.j0 k a0 a1 true t822 t823 t826)) else (l05_products.j0 k a0 a1 true t822 t823 t826)) else (l05_products.j0 k a0 a1 true t822 t823 t826))) = some r := by first | (rw [hy837]; with_reducible exact H) | (have H2_ := (Option.bind_some _ _).symm.trans H; rw [hy837]; with_reducible exact H2_) | (have H2_ := (Option.bind_some _ _).symm.trans H; with_reducible exact H2_) | with_reducible exact H | (rw [hy837]; exact H) | exact H
 have Ny837 := Aside0.mk hy837
 clear hy837
 obtain ⟨t840, A10, H⟩ := ob_ H
 try dsimp only at H
 have HC11 := Aside0.mk H
 clear H
 go_enter Try.func32, Try.ntmps32
 go_upto_region 6 with (first | ((with_reducible refine gate_dst (N := 6) rfl ?_); (try (refine gate_guard (by rfl) ?_; dsimp only)); refine box_event ?hg (N := 6) ?hd (cs := #[.bool a2_0, .slice A2_1 l2_1.length c2_1, .int .i64 a2_2]) (t := 43) ?hr ?_; (case hd => rfl); (case hg => rfl); (case hr => first | (go_simp; done) | (go_simp; rfl)); intro gb820 hg w12 hbox hb; have n0_ := bs_ HB hb; have n1_ := Aside0.mk (hbox); have n2_ := ge_ HB hg; have n3_ := ge_ HB hg; clear HB; have HB := n0_; have BK820 := n1_; have GW820 := n2_; have GE820 := n3_; clear n0_ n1_ n2_ n3_; clear hb hbox hg) | ((with_reducible refine gate_dst (N := 7) rfl ?_); (try (refine gate_guard (by rfl) ?_; dsimp only)); refine box_event ?hg (N := 7) ?hd (cs := #[.bool a3_0, .slice A3_1 l3_1.length c3_1, .int .i64 a3_2]) (t := 43) ?hr ?_; (case hd => rfl); (case hg => rfl); (case hr => first | (go_simp; done) | (go_simp; rfl)); intro gb821 hg w13 hbox hb; have n0_ := kb_ BK820 hb; have n1_ := bs_ HB hb; have n2_ := Aside0.mk (hbox); have n3_ := ge_ HB hg; have n4_ := ge_ HB hg; have n5_ := nlt_ BK820 hg; have n6_ := ngt_ BK820 hg; clear BK820; clear HB; have BK820 := n0_; have HB := n1_; have BK821 := n2_; have GW821 := n3_; have GE821 := n4_; have NB820_821 := n5_; have NB821_820 := n6_; clear n0_ n1_ n2_ n3_ n4_ n5_ n6_; clear hb hbox hg; have hnb14 := NB820_821.out; have hnc14 := NB821_820.out; have hcz15_0 : w13.cell? ⟨gb820, 0, none⟩ = some (.bool a2_0) := (blk_cell BK820.out 0).trans rfl; have hcz15_1 : w13.cell? ⟨gb820, 1, none⟩ = some (.slice A2_1 l2_1.length c2_1) := (blk_cell BK820.out 1).trans rfl; have hcz15_2 : w13.cell? ⟨gb820, 2, none⟩ = some (.int .i64 a2_2) := (blk_cell BK820.out 2).trans rfl; have hfz15_0 := blk_frozen BK820.out 0; have hfz15_1 := blk_frozen BK820.out 1; have hfz15_2 := blk_frozen BK820.out 2; have hcz16_0 : w13.cell? ⟨gb821, 0, none⟩ = some (.bool a3_0) := (blk_cell BK821.out 0).trans rfl; have hcz16_1 : w13.cell? ⟨gb821, 1, none⟩ = some (.slice A3_1 l3_1.length c3_1) := (blk_cell BK821.out 1).trans rfl; have hcz16_2 : w13.cell? ⟨gb821, 2, none⟩ = some (.int .i64 a3_2) := (blk_cell BK821.out 2).trans rfl; have hfz16_0 := blk_frozen BK821.out 0; have hfz16_1 := blk_frozen BK821.out 1; have hfz16_2 := blk_frozen BK821.out 2) | ((with_reducible refine gate_callee (f := 36) rfl ?_); refine goesM (some 18) Try.func36 #[.agg #[.bool a2_0, .slice A2_1 l2_1.length c2_1, .int .i64 a2_2], .agg #[.bool a3_0, .slice A3_1 l3_1.length c3_1, .int .i64 a3_2]] ?_; (with_reducible refine (r03_Mul.calls k a2_0 _ _ l2_1 a2_2 a3_0 _ _ l3_1 a3_2 t822 t823 t826 t827 _ ?side1 ?side2 ?side3 ?side4 A5.out).mono ?_); (case side1 => repeat (first | exact (Kd.C_below HR2_1.out HB.out) | (with_reducible first | apply cA | apply cN | apply cD))); (case side2 => exact HC2_1.out); (case side3 => repeat (first | exact (Kd.C_below HR3_1.out HB.out) | (with_reducible first | apply cA | apply cN | apply cD))); (case side4 => exact HC3_1.out); rintro e w17 ⟨v824, rfl, ho0, hb⟩; refine ⟨_, rfl, ?_⟩; have n0_ := Aside0.mk (Kd.R_lower ho0 (below_size (bl_ HB))); have n1_ := kb_ BK820 hb; have n2_ := kb_ BK821 hb; have n3_ := bs_ HB hb; clear BK820; clear BK821; clear HB; have HO825 := n0_; have BK820 := n1_; have BK821 := n2_; have HB := n3_; clear n0_ n1_ n2_ n3_; (try clear hb); (try clear hb2); (try clear hk); (try clear hi); (try clear ho0)) | ((with_reducible refine gate_dst (N := 9) rfl ?_); (try (refine gate_guard (by rfl) ?_; dsimp only)); refine box_event ?hg (N := 9) ?hd (cs := #[.bool false, .slice none 0 0, .int .i64 0]) (t := 43) ?hr ?_; (case hd => rfl); (case hg => rfl); (case hr => first | (go_simp; done) | (go_simp; rfl)); intro gb828 hg w18 hbox hb; have n0_ := Aside0.mk (Kd.R_below (rr_ HO825) hb); have n1_ := kb_ BK820 hb; have n2_ := kb_ BK821 hb; have n3_ := bs_ HB hb; have n4_ := Aside0.mk (hbox); have n5_ := ge_ HB hg; have n6_ := ge_ HB hg; have n7_ := nlt_ BK820 hg; have n8_ := ngt_ BK820 hg; have n9_ := nlt_ BK821 hg; have n10_ := ngt_ BK821 hg; clear HO825; clear BK820; clear BK821; clear HB; have HO825 := n0_; have BK820 := n1_; have BK821 := n2_; have HB := n3_; have BK828 := n4_; have GW828 := n5_; have GE828 := n6_; have NB820_828 := n7_; have NB828_820 := n8_; have NB821_828 := n9_; have NB828_821 := n10_; clear n0_ n1_ n2_ n3_ n4_ n5_ n6_ n7_ n8_ n9_ n10_; clear hb hbox hg; have hnb19 := NB828_820.out; have hnc19 := NB820_828.out; have hnb20 := NB828_821.out; have hnc20 := NB821_828.out; have hcz21_0 : w18.cell? ⟨gb828, 0, none⟩ = some (.bool false) := (blk_cell BK828.out 0).trans rfl; have hcz21_1 : w18.cell? ⟨gb828, 1, none⟩ = some (.slice none 0 0) := (blk_cell BK828.out 1).trans rfl; have hcz21_2 : w18.cell? ⟨gb828, 2, none⟩ = some (.int .i64 0) := (blk_cell BK828.out 2).trans rfl; have hfz21_0 := blk_frozen BK828.out 0; have hfz21_1 := blk_frozen BK828.out 1; have hfz21_2 := blk_frozen BK828.out 2; obtain ⟨Ao22, co22, eo22⟩ := Kd.R_slice HO825.out; subst eo22; have hcz23_0 : w18.cell? ⟨gb820, 0, none⟩ = some (.bool a2_0) := (blk_cell BK820.out 0).trans rfl; have hcz23_1 : w18.cell? ⟨gb820, 1, none⟩ = some (.slice A2_1 l2_1.length c2_1) := (blk_cell BK820.out 1).trans rfl; have hcz23_2 : w18.cell? ⟨gb820, 2, none⟩ = some (.int .i64 a2_2) := (blk_cell BK820.out 2).trans rfl; have hfz23_0 := blk_frozen BK820.out 0; have hfz23_1 := blk_frozen BK820.out 1; have hfz23_2 := blk_frozen BK820.out 2) | ((with_reducible refine gate_callee (f := 51) rfl ?_); refine goesM (some 22) Try.func51 #[.agg #[.bool a2_0, .slice A2_1 l2_1.length c2_1, .int .i64 a2_2], .int .i64 995] ?_; (with_reducible refine (l05_within.calls k a2_0 _ _ l2_1 a2_2 995 t829 _ ?side1 ?side2 A6.out).mono ?_); (case side1 => exact Kd.C_below HR2_1.out (bl_ HB)); (case side2 => exact HC2_1.out); rintro e w24 ⟨rfl, hb⟩; refine ⟨_, rfl, ?_⟩; have n0_ := Aside0.mk (Kd.R_below (by (with_reducible repeat (first | apply rA | apply rN | apply rD)); exact (Kd.R_mono (Kd.R_far (p := ⟨gb828, 2, none⟩) (Kd.R_far (p := ⟨gb828, 1, none⟩) (Kd.R_far (p := ⟨gb828, 0, none⟩) (Kd.R_types HO825.out BK828.out (by decide)) (fun _ hk => hk.2) (.bool t822)) (fun _ hk => hk.2) (.slice Ao22 t823.length co22)) (fun _ hk => hk.2) (.int .i64 t826)) (fun _ h_ => h_.1))) hb); have n1_ := Aside0.mk (blk_below (g := gb820) (o := .cells #[.bool a2_0, .slice A2_1 l2_1.length c2_1, .int .i64 a2_2] 43 (0, 0)) (by (with_reducible repeat (first | apply bN | apply bD | apply bA)); refine blk_far ?_ NB820_828.out _; (with_reducible repeat (first | apply bN | apply bD | apply bA)); refine blk_far ?_ NB820_828.out _; (with_reducible repeat (first | apply bN | apply bD | apply bA)); refine blk_far ?_ NB820_828.out _; exact bk_ BK820) hb); have n2_ := Aside0.mk (blk_below (g := gb821) (o := .cells #[.bool a3_0, .slice A3_1 l3_1.length c3_1, .int .i64 a3_2] 43 (0, 0)) (by (with_reducible repeat (first | apply bN | apply bD | apply bA)); refine blk_far ?_ NB821_828.out _; (with_reducible repeat (first | apply bN | apply bD | apply bA)); refine blk_far ?_ NB821_828.out _; (with_reducible repeat (first | apply bN | apply bD | apply bA)); refine blk_far ?_ NB821_828.out _; exact bk_ BK821) hb); have n3_ := Aside0.mk (blk_below (g := gb828) (o := .cells #[.bool t822, .slice Ao22 t823.length co22, .int .i64 t826] 43 (0, 0)) (by (with_reducible repeat (first | apply bN | apply bD | apply bA)); refine blk_put (cs := #[.bool t822, .slice Ao22 t823.length co22, .int .i64 0]) ?_ 2 _ rfl; (with_reducible repeat (first | apply bN | apply bD | apply bA)); refine blk_put (cs := #[.bool t822, .slice none 0 0, .int .i64 0]) ?_ 1 _ rfl; (with_reducible repeat (first | apply bN | apply bD | apply bA)); refine blk_put (cs := #[.bool false, .slice none 0 0, .int .i64 0]) ?_ 0 _ rfl; exact bk_ BK828) hb); have n4_ := bs_ HB hb; clear HO825; clear BK820; clear BK821; clear BK828; clear HB; have HO825 := n0_; have BK820 := n1_; have BK821 := n2_; have BK828 := n3_; have HB := n4_; clear n0_ n1_ n2_ n3_ n4_; (try clear hb); (try clear hb2); (try clear hk); (try clear hi); have hcz25_0 : w24.cell? ⟨gb821, 0, none⟩ = some (.bool a3_0) := (blk_cell BK821.out 0).trans rfl; have hcz25_1 : w24.cell? ⟨gb821, 1, none⟩ = some (.slice A3_1 l3_1.length c3_1) := (blk_cell BK821.out 1).trans rfl; have hcz25_2 : w24.cell? ⟨gb821, 2, none⟩ = some (.int .i64 a3_2) := (blk_cell BK821.out 2).trans rfl; have hfz25_0 := blk_frozen BK821.out 0; have hfz25_1 := blk_frozen BK821.out 1; have hfz25_2 := blk_frozen BK821.out 2) | ((with_reducible refine gate_callee (f := 51) rfl ?_); refine goesM (some 24) Try.func51 #[.agg #[.bool a3_0, .slice A3_1 l3_1.length c3_1, .int .i64 a3_2], .int .i64 995] ?_; (with_reducible refine (l05_within.calls k a3_0 _ _ l3_1 a3_2 995 t830 _ ?side1 ?side2 A7.out).mono ?_); (case side1 => repeat (first | exact (Kd.C_below HR3_1.out HB.out) | (with_reducible first | apply cA | apply cN | apply cD))); (case side2 => exact HC3_1.out); rintro e w26 ⟨rfl, hb⟩; refine ⟨_, rfl, ?_⟩; have n0_ := Aside0.mk (Kd.R_below (rr_ HO825) hb); have n1_ := kb_ BK820 hb; have n2_ := kb_ BK821 hb; have n3_ := kb_ BK828 hb; have n4_ := bs_ HB hb; clear HO825; clear BK820; clear BK821; clear BK828; clear HB; have HO825 := n0_; have BK820 := n1_; have BK821 := n2_; have BK828 := n3_; have HB := n4_; clear n0_ n1_ n2_ n3_ n4_; (try clear hb); (try clear hb2); (try clear hk); (try clear hi); have hcz27_0 : w26.cell? ⟨gb828, 0, none⟩ = some (.bool t822) := (blk_cell BK828.out 0).trans rfl; have hcz27_1 : w26.cell? ⟨gb828, 1, none⟩ = some (.slice Ao22 t823.length co22) := (blk_cell BK828.out 1).trans rfl; have hcz27_2 : w26.cell? ⟨gb828, 2, none⟩ = some (.int .i64 t826) := (blk_cell BK828.out 2).trans rfl; have hfz27_0 := blk_frozen BK828.out 0; have hfz27_1 := blk_frozen BK828.out 1; have hfz27_2 := blk_frozen BK828.out 2) | ((with_reducible refine gate_callee (f := 51) rfl ?_); refine goesM (some 26) Try.func51 #[.agg #[.bool t822, .slice Ao22 t823.length co22, .int .i64 t826], .int .i64 1021] ?_; (with_reducible refine (l05_within.calls k t822 _ _ t823 t826 1021 t831 _ ?side1 ?side2 A8.out).mono ?_); (case side1 => repeat (first | exact (Kd.R_reads' HO825.out).2.2 | (with_reducible first | apply cA | apply cN | apply cD))); (case side2 => exact (Kd.R_reads' HO825.out).2.1); rintro e w28 ⟨rfl, hb⟩; refine ⟨_, rfl, ?_⟩; have n0_ := Aside0.mk (Kd.R_below (rr_ HO825) hb); have n1_ := kb_ BK820 hb; have n2_ := kb_ BK821 hb; have n3_ := kb_ BK828 hb; have n4_ := bs_ HB hb; clear HO825; clear BK820; clear BK821; clear BK828; clear HB; have HO825 := n0_; have BK820 := n1_; have BK821 := n2_; have BK828 := n3_; have HB := n4_; clear n0_ n1_ n2_ n3_ n4_; (try clear hb); (try clear hb2); (try clear hk); (try clear hi); have hcz29_0 : w28.cell? ⟨gb828, 0, none⟩ = some (.bool t822) := (blk_cell BK828.out 0).trans rfl; have hcz29_1 : w28.cell? ⟨gb828, 1, none⟩ = some (.slice Ao22 t823.length co22) := (blk_cell BK828.out 1).trans rfl; have hcz29_2 : w28.cell? ⟨gb828, 2, none⟩ = some (.int .i64 t826) := (blk_cell BK828.out 2).trans rfl; have hfz29_0 := blk_frozen BK828.out 0; have hfz29_1 := blk_frozen BK828.out 1; have hfz29_2 := blk_frozen BK828.out 2) | ((with_reducible refine gate_callee (f := 54) rfl ?_); refine goesM (some 28) Try.func54 #[.agg #[.bool t822, .slice Ao22 t823.length co22, .int .i64 t826]] ?_; (with_reducible refine (l05_size.calls t822 (fun k_ => some k_ = (.slice Ao22 t823.length co22 : Value).ownBlock) _ _ t823 t826 t832 t833 t836 _ ?side1 A9.out).mono ?_); (case side1 => exact Kd.R_V (Kd.R_tight rfl (Kd.R_types (Kd.R_types (Kd.R_types (HO825.out) BK820.out (by decide)) BK821.out (by decide)) BK828.out (by decide)))); rintro e w30 ⟨v834, rfl, ho0, hb⟩; refine ⟨_, rfl, ?_⟩; have n0_ := Aside0.mk (Kd.R_below (rr_ HO825) hb); have n1_ := Aside0.mk (Kd.V_lower (Kd.V_mono (ok' := fun k_ => k_ ≠ gb820 ∧ k_ ≠ gb821 ∧ k_ ≠ gb828) ho0 (fun k_ hk_ => ⟨Or.elim hk_ (fun hs_ => ((Kd.R_types (Kd.R_types (Kd.R_types (HO825.out) BK820.out (by decide)) BK821.out (by decide)) BK828.out (by decide)).1 k_ hs_.symm).1.1.2) (fun hn_ => (Kd.freshB (g := gb820) (o := .cells #[.bool a2_0, .slice A2_1 l2_1.length c2_1, .int .i64 a2_2] 43 (0, 0)) (bk_ BK820) k_ hn_)), Or.elim hk_ (fun hs_ => ((Kd.R_types (Kd.R_types (Kd.R_types (HO825.out) BK820.out (by decide)) BK821.out (by decide)) BK828.out (by decide)).1 k_ hs_.symm).1.2) (fun hn_ => (Kd.freshB (g := gb821) (o := .cells #[.bool a3_0, .slice A3_1 l3_1.length c3_1, .int .i64 a3_2] 43 (0, 0)) (bk_ BK821) k_ hn_)), Or.elim hk_ (fun hs_ => ((Kd.R_types (Kd.R_types (Kd.R_types (HO825.out) BK820.out (by decide)) BK821.out (by decide)) BK828.out (by decide)).1 k_ hs_.symm).2) (fun hn_ => (Kd.freshB (g := gb828) (o := .cells #[.bool t822, .slice Ao22 t823.length co22, .int .i64 t826] 43 (0, 0)) (bk_ BK828) k_ hn_))⟩)) (below_size (bl_ HB))); have n2_ := kb_ BK820 hb; have n3_ := kb_ BK821 hb; have n4_ := kb_ BK828 hb; have n5_ := bs_ HB hb; clear HO825; clear BK820; clear BK821; clear BK828; clear HB; have HO825 := n0_; have HO835 := n1_; have BK820 := n2_; have BK821 := n3_; have BK828 := n4_; have HB := n5_; clear n0_ n1_ n2_ n3_ n4_ n5_; (try clear hb); (try clear hb2); (try clear hk); (try clear hi); (try clear ho0)) | ((with_reducible refine gate_dst (N := 29) rfl ?_); (try (refine gate_guard (by rfl) ?_; dsimp only)); refine Kd.R_lit (Kd.int .u32) _ 72 ?hg (N := 29) ?hd (xs := ([1] : List Int)) (inner := [.int .u32 1]) (ok := fun _ => True) (okp := fun _ => True) ?hr ?hp (fun _ hk => hk) trivial (Below.refl _ _) (Nat.le_refl _) (by simp) ?_; (case hd => rfl); (case hg => rfl); (case hr => first | (go_simp; done) | (go_simp; rfl)); (case hp => exact (Reps.one (show Kd.M (Kd.int .u32) _ _ _ 1 [.int .u32 1] from rfl) (Reps.none _ _))); intro v838 w31 ho32 hb hg_ hnew_; clear hg_ hnew_; (first | rw [← Ny837.out] at ho32 | (simp only [Int.reduceToNat] at ho32; rw [← Ny837.out] at ho32)); have n0_ := Aside0.mk (Kd.R_elder' (rr_ HO825) (Kd.R_base ho32) hb); have n1_ := Aside0.mk (Kd.V_elder' (by (with_reducible repeat (first | apply Kd.V_alloc | apply Kd.V_drewN | apply Kd.V_drew)); exact HO835.out) (Kd.R_base ho32) hb); have n2_ := Aside0.mk (Kd.R_lower (Kd.R_new' ho32 (Kd.R_lt (rr_ HO825))) (below_size (bl_ HB))); have n3_ := kb_ BK820 hb; have n4_ := kb_ BK821 hb; have n5_ := kb_ BK828 hb; have n6_ := bs_ HB hb; clear HO825; clear HO835; clear BK820; clear BK821; clear BK828; clear HB; have HO825 := n0_; have HO835 := n1_; have HO839 := n2_; have BK820 := n3_; have BK821 := n4_; have BK828 := n5_; have HB := n6_; clear n0_ n1_ n2_ n3_ n4_ n5_ n6_; clear hb ho32; obtain ⟨Ao33, co33, eo33⟩ := Kd.R_slice HO839.out; subst eo33; obtain ⟨Ao34, co34, eo34⟩ := Kd.V_slice HO835.out; subst eo34) | ((with_reducible refine gate_callee (f := 53) rfl ?_); refine goesM (some 31) Try.func53 #[.agg #[.bool t832, .slice Ao34 t833.length co34, .int .i64 t836], .agg #[.bool false, .slice Ao33 y837.length co33, .int .i64 (-969)]] ?_; (with_reducible refine (r03_Cmp.calls k t832 _ _ t833 t836 false _ _ y837 (-969) t840 _ ?side1 ?side2 ?side3 ?side4 A10.out).mono ?_); (case side1 => repeat (first | exact (Kd.V_reads' HO835.out).2.2 | (with_reducible first | apply cA | apply cN | apply cD))); (case side2 => exact (Kd.V_reads' HO835.out).2.1); (case side3 => repeat (first | exact (Kd.R_reads' HO839.out).2.2 | (with_reducible first | apply cA | apply cN | apply cD))); (case side4 => exact (Kd.R_reads' HO839.out).2.1); rintro e w35 ⟨rfl, hb⟩; refine ⟨_, rfl, ?_⟩; have n0_ := Aside0.mk (Kd.R_below (rr_ HO825) hb); have n1_ := Aside0.mk (Kd.V_below (by (with_reducible repeat (first | apply Kd.V_alloc | apply Kd.V_drewN | apply Kd.V_drew)); exact HO835.out) hb); have n2_ := Aside0.mk (Kd.R_below (rr_ HO839) hb); have n3_ := kb_ BK820 hb; have n4_ := kb_ BK821 hb; have n5_ := kb_ BK828 hb; have n6_ := bs_ HB hb; clear HO825; clear HO835; clear HO839; clear BK820; clear BK821; clear BK828; clear HB; have HO825 := n0_; have HO835 := n1_; have HO839 := n2_; have BK820 := n3_; have BK821 := n4_; have BK828 := n5_; have HB := n6_; clear n0_ n1_ n2_ n3_ n4_ n5_ n6_; (try clear hb); (try clear hb2); (try clear hk); (try clear hi)))
 (try simp only [Act.put, List.setIfInBounds_toArray, List.set_cons_zero, List.set_cons_succ])
 obtain ⟨bz36, hbz36⟩ : ∃ b_ : Bool, decide (0 ≤ t840) = b_ := ⟨_, rfl⟩
 (try rw [hbz36])
 go_cut [52] (fun v52 wc => ∃ (kq : Nat) (x52_10 : Bool), v52 = .bool x52_10 ∧ Aside0 (l05_products.j0 kq a0 a1 x52_10 t822 t823 t826 = some r) ∧ Aside0 (kq ≤ k) ∧ Aside0 (Kd.R (Kd.int .u32) 72 wc w.heap.size (fun _ => True) (.slice Ao22 t823.length co22) t823) ∧ Aside0 (wc.heap[gb820]? = some (.cells #[.bool a2_0, (.slice A2_1 l2_1.length c2_1), .int .i64 a2_2] 43 (0, 0))) ∧ Aside0 (wc.heap[gb821]? = some (.cells #[.bool a3_0, (.slice A3_1 l3_1.length c3_1), .int .i64 a3_2] 43 (0, 0))) ∧ Aside0 (wc.heap[gb828]? = some (.cells #[.bool t822, (.slice Ao22 t823.length co22), .int .i64 t826] 43 (0, 0))) ∧ Aside0 (Below w.heap.size w wc))
 case first =>
  have H := HC11.out
  clear HC11
  by_cases c37 : t829 = true
  ·subst c37
   have H1 : (if t830 = true then (if t831 = true then (if t840 ≥ 0 then (l05_products.j0 k a0 a1 false t822 t823 t826) else (l05_products.j0 k a0 a1 (decide ((t823.length : Int) > 0)) t822 t823 t826)) else (l05_products.j0 k a0 a1 true t822 t823 t826)) else (l05_products.j0 k a0 a1 true t822 t823 t826)) = some r := by rw [if_pos rfl] at H; exact H
   clear H
   have H := H1
   clear H1
   by_cases c38 : t830 = true
   ·subst c38
    have H1 : (if t831 = true then (if t840 ≥ 0 then (l05_products.j0 k a0 a1 false t822 t823 t826) else (l05_products.j0 k a0 a1 (decide ((t823.length : Int) > 0)) t822 t823 t826)) else (l05_products.j0 k a0 a1 true t822 t823 t826)) = some r := by rw [if_pos rfl] at H; exact H
    clear H
    have H := H1
    clear H1
    by_cases c39 : t831 = true
    ·subst c39
     have H1 : (if t840 ≥ 0 then (l05_products.j0 k a0 a1 false t822 t823 t826) else (l05_products.j0 k a0 a1 (decide ((t823.length : Int) > 0)) t822 t823 t826)) = some r := by rw [if_pos rfl] at H; exact H
     clear H
     have H := H1
     clear H1
     by_cases c40 : t840 ≥ 0
     ·rw [if_pos c40] at H
      have c40b0 : decide (0 ≤ t840) = true := decide_eq_true c40
      (try obtain rfl : bz36 = true := hbz36.symm.trans c40b0)
      clear c40
      (first | rw [c40b0] | (simp only [i64_w, i32_w]; rw [c40b0]) | skip)
      have H' := Aside0.mk H
      clear H
      go_wp2
      go_meet
      case rel => exact ⟨_, (false), (by first | rfl | (simp; done) | (simp [*]; done)), H', ⟨by first | omega | exact Nat.le_refl _⟩, ⟨by (with_reducible repeat (first | apply rA | apply rN | apply rD)); exact Kd.R_mono HO825.out (fun _ hk => trivial)⟩, ⟨bk_ BK820⟩, ⟨bk_ BK821⟩, ⟨bk_ BK828⟩, ⟨bl_ HB⟩⟩
     ·rw [if_neg c40] at H
      have c40b0 : decide (0 ≤ t840) = false := decide_eq_false c40
      (try obtain rfl : bz36 = false := hbz36.symm.trans c40b0)
      clear c40
      (first | rw [c40b0] | (simp only [i64_w, i32_w]; rw [c40b0]) | skip)
      have H' := Aside0.mk H
      clear H
      have hnb41 := NB828_820.out
      have hnc41 := NB820_828.out
      have hnb42 := NB828_821.out
      have hnc42 := NB821_828.out
      have hcz43_0 : w35.cell? ⟨gb828, 0, none⟩ = some (.bool t822) := (blk_cell BK828.out 0).trans rfl
      have hcz43_1 : w35.cell? ⟨gb828, 1, none⟩ = some (.slice Ao22 t823.length co22) := (blk_cell BK828.out 1).trans rfl
      have hcz43_2 : w35.cell? ⟨gb828, 2, none⟩ = some (.int .i64 t826) := (blk_cell BK828.out 2).trans rfl
      have hfz43_0 := blk_frozen BK828.out 0
      have hfz43_1 := blk_frozen BK828.out 1
      have hfz43_2 := blk_frozen BK828.out 2
      go_wp2
      go_meet
      case rel => exact ⟨_, (decide ((t823.length : Int) > 0)), (by first | rfl | (simp; done) | (simp [*]; done)), H', ⟨by first | omega | exact Nat.le_refl _⟩, ⟨by (with_reducible repeat (first | apply rA | apply rN | apply rD)); exact Kd.R_mono HO825.out (fun _ hk => trivial)⟩, ⟨bk_ BK820⟩, ⟨bk_ BK821⟩, ⟨bk_ BK828⟩, ⟨bl_ HB⟩⟩
    ·replace c39 := Bool.eq_false_iff.mpr c39
     subst c39
     have H1 : (l05_products.j0 k a0 a1 true t822 t823 t826) = some r := by rw [if_neg (show ¬ (false = true) by decide)] at H; exact H
     clear H
     have H := H1
     clear H1
     have H' := Aside0.mk H
     clear H
     go_wp2
     go_meet
     case rel => exact ⟨_, (true), (by first | rfl | (simp; done) | (simp [*]; done)), H', ⟨by first | omega | exact Nat.le_refl _⟩, ⟨by (with_reducible repeat (first | apply rA | apply rN | apply rD)); exact Kd.R_mono HO825.out (fun _ hk => trivial)⟩, ⟨bk_ BK820⟩, ⟨bk_ BK821⟩, ⟨bk_ BK828⟩, ⟨bl_ HB⟩⟩
   ·replace c38 := Bool.eq_false_iff.mpr c38
    subst c38
    have H1 : (l05_products.j0 k a0 a1 true t822 t823 t826) = some r := by rw [if_neg (show ¬ (false = true) by decide)] at H; exact H
    clear H
    have H := H1
    clear H1
    have H' := Aside0.mk H
    clear H
    go_wp2
    go_meet
    case rel => exact ⟨_, (true), (by first | rfl | (simp; done) | (simp [*]; done)), H', ⟨by first | omega | exact Nat.le_refl _⟩, ⟨by (with_reducible repeat (first | apply rA | apply rN | apply rD)); exact Kd.R_mono HO825.out (fun _ hk => trivial)⟩, ⟨bk_ BK820⟩, ⟨bk_ BK821⟩, ⟨bk_ BK828⟩, ⟨bl_ HB⟩⟩
  ·replace c37 := Bool.eq_false_iff.mpr c37
   subst c37
   have H1 : (l05_products.j0 k a0 a1 true t822 t823 t826) = some r := by rw [if_neg (show ¬ (false = true) by decide)] at H; exact H
   clear H
   have H := H1
   clear H1
   have H' := Aside0.mk H
   clear H
   go_wp2
   go_meet
   case rel => exact ⟨_, (true), (by first | rfl | (simp; done) | (simp [*]; done)), H', ⟨by first | omega | exact Nat.le_refl _⟩, ⟨by (with_reducible repeat (first | apply rA | apply rN | apply rD)); exact Kd.R_mono HO825.out (fun _ hk => trivial)⟩, ⟨bk_ BK820⟩, ⟨bk_ BK821⟩, ⟨bk_ BK828⟩, ⟨bl_ HB⟩⟩
 case rest =>
  clear HC11
  try clear c1
  try clear c2
  try clear p2
  try clear c3
  try clear c4
  try clear c5
  try clear c14
  try clear c19
  try clear c20
  try clear c32
  try clear c36
  try clear c37
  try clear c38
  try clear c39
  try clear c40
  try clear c40b0
  try clear c41
  try clear c42
  try clear hcz15_0
  try clear hcz15_1
  try clear hcz15_2
  try clear hcz16_0
  try clear hcz16_1
  try clear hcz16_2
  try clear hcz21_0
  try clear hcz21_1
  try clear hcz21_2
  try clear hcz23_0
  try clear hcz23_1
  try clear hcz23_2
  try clear hcz25_0
  try clear hcz25_1
  try clear hcz25_2
  try clear hcz27_0
  try clear hcz27_1
  try clear hcz27_2
  try clear hcz29_0
  try clear hcz29_1
  try clear hcz29_2
  try clear hcz43_0
  try clear hcz43_1
  try clear hcz43_2
  try clear hfz15_0
  try clear hfz15_1
  try clear hfz15_2
  try clear hfz16_0
  try clear hfz16_1
  try clear hfz16_2
  try clear hfz21_0
  try clear hfz21_1
  try clear hfz21_2
  try clear hfz23_0
  try clear hfz23_1
  try clear hfz23_2
  try clear hfz25_0
  try clear hfz25_1
  try clear hfz25_2
  try clear hfz27_0
  try clear hfz27_1
  try clear hfz27_2
  try clear hfz29_0
  try clear hfz29_1
  try clear hfz29_2
  try clear hfz43_0
  try clear hfz43_1
  try clear hfz43_2
  obtain ⟨kq, x52_10, rfl, HA, HJ10, HO_829001, BK820, BK821, BK828, HB⟩ := hcut
  cases kq with
  | zero => exact absurd HA.out (by simp [l05_products.j0])
  | succ kj10 =>
   have H := HA.out
   clear HA
   simp only [l05_products.j0] at H
   by_cases c44 : x52_10 = true
   ·subst c44
    have H1 : (some true) = some r := by rw [if_pos rfl] at H; exact H
    clear H
    have H := H1
    clear H1
    obtain rfl := Option.some.inj H
    go_wp2
    go_ret
    exact ⟨by first | rfl | (simp [errW_none, errW_some] <;> rfl) | (simp [*, errW_none, errW_some] <;> rfl), bl_ HB⟩
   ·replace c44 := Bool.eq_false_iff.mpr c44
    subst c44
    have H1 : ((pair_Product.f a0 a1).bind fun bt841 => ((l05_just.f kj10 bt841.1 bt841.2 t822 t823 t826).bind fun t843 => (some t843))) = some r := by rw [if_neg (show ¬ (false = true) by decide)] at H; exact H
    clear H
    have H := H1
    clear H1
    obtain ⟨⟨t841, t842⟩, A45, H⟩ := ob_ H
    try dsimp only at H
    obtain ⟨t843, A46, H⟩ := ob_ H
    try dsimp only at H
    obtain rfl := Option.some.inj H
    try go_wp2
    have n0_ := Aside0.mk (Kd.R_drew HO_829001.out)
    have n1_ := Aside0.mk (blk_drew BK820.out)
    have n2_ := Aside0.mk (blk_drew BK821.out)
    have n3_ := Aside0.mk (blk_drew BK828.out)
    have n4_ := Aside0.mk (below_drew1 HB.out)
    clear HO_829001
    clear BK820
    clear BK821
    clear BK828
    clear HB
    have HO_829001 := n0_
    have BK820 := n1_
    have BK821 := n2_
    have BK828 := n3_
    have HB := n4_
    clear n0_ n1_ n2_ n3_ n4_
    refine start_ (n := 6) (S := fun w' => w'.cell? ⟨gb828, 0, none⟩ = some (.bool t822) ∧ w'.cell? ⟨gb828, 1, none⟩ = some (.slice Ao22 t823.length co22) ∧ w'.cell? ⟨gb828, 2, none⟩ = some (.int .i64 t826)) (ds := []) #[false, false, false, false, false, false] (by kernel_rfl) rfl rfl ⟨(blk_cell BK828.out 0).trans rfl, (blk_cell BK828.out 1).trans rfl, (blk_cell BK828.out 2).trans rfl⟩ (fun hHeld => ?_)
    generalize wc.drew = w47 at HO_829001 BK820 BK821 BK828 HB hHeld ⊢
    refine pure_ (i := 0) (N := some 53) (v := ?_) (a' := ?_) #[true, false, false, false, false, false] rfl rfl (by kernel_rfl) (fun _ _ _ h => h) (Or.inl ⟨by rfl, ?_⟩) ?_ ?_
    rotate_left
    ·intro w'
     go_simp
     with_reducible rfl
    rotate_left
    ·simp only [Act.put, List.setIfInBounds_toArray, List.set_cons_zero, List.set_cons_succ, i64_w, i32_w]
     rfl
    refine pure_ (i := 1) (N := some 54) (v := ?_) (a' := ?_) #[true, true, false, false, false, false] rfl rfl (by kernel_rfl) (fun _ _ _ h => h) (Or.inl ⟨by rfl, ?_⟩) ?_ ?_
    rotate_left
    ·intro w'
     go_simp
     with_reducible rfl
    rotate_left
    ·simp only [Act.put, List.setIfInBounds_toArray, List.set_cons_zero, List.set_cons_succ, i64_w, i32_w]
     rfl
    refine take_ (i := 3) (N := some 56) (v := ?_) (a' := ?_) #[true, true, false, true, false, false] rfl rfl (by kernel_rfl) (fun _ _ _ h => h) (Or.inl ⟨by rfl, ?_⟩) hHeld ?_ ?_
    rotate_left
    ·rintro w' ⟨s0, s1, s2⟩
     go_simp
     with_reducible rfl
    rotate_left
    ·simp only [Act.put, List.setIfInBounds_toArray, List.set_cons_zero, List.set_cons_succ, i64_w, i32_w]
     rfl
    refine one_ (i := 2) (N := some 55) #[true, true, true, true, false, false] rfl rfl (by kernel_rfl) (by decide) (fun K hK => ?_)
    refine goes_ Try.func14 (by kernel_rfl) rfl #[.float .f64 a0, .float .f64 a1] (by rfl) rfl rfl (by (try simp only [List.map_toArray, List.map_cons, List.map_nil]); first | done | rfl | (simp only [List.length_drop, List.length_take]; rfl)) ?_
    with_reducible refine (pair_Product.calls a0 a1 t841 t842 _ A45.out).mono ?_
    rintro e w48 ⟨rfl, hb⟩
    refine ⟨_, rfl, ?_⟩
    have n0_ := Aside0.mk (Kd.R_below (rr_ HO_829001) hb)
    have n1_ := kb_ BK820 hb
    have n2_ := kb_ BK821 hb
    have n3_ := kb_ BK828 hb
    have n4_ := bs_ HB hb
    clear HO_829001
    clear BK820
    clear BK821
    clear BK828
    clear HB
    have HO_829001 := n0_
    have BK820 := n1_
    have BK821 := n2_
    have BK828 := n3_
    have HB := n4_
    clear n0_ n1_ n2_ n3_ n4_
    (try clear hb)
    (try clear hb2)
    (try clear hk)
    (try clear hi)
    refine hK.out _ _ ⟨(blk_cell BK828.out 0).trans rfl, (blk_cell BK828.out 1).trans rfl, (blk_cell BK828.out 2).trans rfl⟩ (fun hHeld => ?_)
    clear hK K
    refine norm_ (a' := ?_) ?_ ?_
    rotate_left
    ·show Act.put _ (some 55) _ = _
     simp only [Act.put, List.setIfInBounds_toArray, List.set_cons_zero, List.set_cons_succ, i64_w, i32_w]
     rfl
    refine one_ (i := 4) (N := some 57) #[true, true, true, true, true, false] rfl rfl (by kernel_rfl) (by decide) (fun K hK => ?_)
    refine goes_ Try.func52 (by kernel_rfl) rfl #[.agg #[.float .f64 t841, .float .f64 t842], .agg #[.bool t822, .slice Ao22 t823.length co22, .int .i64 t826]] (by rfl) rfl rfl (by (try simp only [List.map_toArray, List.map_cons, List.map_nil]); first | done | rfl | (simp only [List.length_drop, List.length_take]; rfl)) ?_
    with_reducible refine (l05_just.calls kj10 t841 t842 t822 _ _ t823 t826 t843 _ ?side1 ?side2 A46.out).mono ?_
    (case side1 => repeat (first | exact (Kd.R_reads' HO_829001.out).2.2 | (with_reducible first | apply cA | apply cN | apply cD)))
    (case side2 => exact (Kd.R_reads' HO_829001.out).2.1)
    rintro e w49 ⟨rfl, hb⟩
    refine ⟨_, rfl, ?_⟩
    have n0_ := Aside0.mk (Kd.R_below (rr_ HO_829001) hb)
    have n1_ := kb_ BK820 hb
    have n2_ := kb_ BK821 hb
    have n3_ := kb_ BK828 hb
    have n4_ := bs_ HB hb
    clear HO_829001
    clear BK820
    clear BK821
    clear BK828
    clear HB
    have HO_829001 := n0_
    have BK820 := n1_
    have BK821 := n2_
    have BK828 := n3_
    have HB := n4_
    clear n0_ n1_ n2_ n3_ n4_
    (try clear hb)
    (try clear hb2)
    (try clear hk)
    (try clear hi)
    refine hK.out _ _ ⟨(blk_cell BK828.out 0).trans rfl, (blk_cell BK828.out 1).trans rfl, (blk_cell BK828.out 2).trans rfl⟩ (fun hHeld => ?_)
    clear hK K
    refine norm_ (a' := ?_) ?_ ?_
    rotate_left
    ·show Act.put _ (some 57) _ = _
     simp only [Act.put, List.setIfInBounds_toArray, List.set_cons_zero, List.set_cons_succ, i64_w, i32_w]
     rfl
    refine pure_ (i := 5) (N := some 8) (v := ?_) (a' := ?_) #[true, true, true, true, true, true] rfl rfl (by kernel_rfl) (fun _ _ _ h => h) (Or.inl ⟨by rfl, ?_⟩) ?_ ?_
    rotate_left
    ·intro w'
     go_simp
     with_reducible rfl
    rotate_left
    ·simp only [Act.put, List.setIfInBounds_toArray, List.set_cons_zero, List.set_cons_succ, i64_w, i32_w]
     rfl
    refine done_ (by kernel_rfl) ?_
    try go_wp2
    go_ret
    exact ⟨by first | rfl | (simp [errW_none, errW_some] <;> rfl) | (simp [*, errW_none, errW_some] <;> rfl), bl_ HB⟩

end Go.Proofs.Ytdemanikmaafeaa.Pr
