-- short
-- written by this session's own program (wip/fprint.py), which widens the kit's print by floats
import Derived.Test.YtdemanikmaafeaaPr0
import Derived.Test.YtdemanikmaafeaaPr7
import Derived.Test.YtdemanikmaafeaaPr13
namespace Go.Proofs.Ytdemanikmaafeaa.Pr
open Go.RowKit Go.Proofs.YtdemanikmaafeaaW.PrintWords Go.Proofs.YtdemanikmaafeaaW.PrintLast Go.Proofs.YtdemanikmaafeaaW.PrintMore
attribute [local go_sem] max2_int min2_int max_two min_two max_three min_three max_four min_four   -- for this text's walks alone
set_option linter.unusedVariables false
set_option linter.unusedSimpArgs false

/-! ### steelyardref03_Mul: function 36 -/
def steelyardref03_Mul.j0 : Nat → Bool → Bool → List Int → Int → Bool → List Int → Int → Option (Bool × List Int × Int × Int)
 | 0, _, _, _, _, _, _, _ => none
 | k + 1, x25, x563000, x563001, x563002, x570000, x570001, x570002 => if x25 = true then (some (false, ([] : List Int), 0, 2)) else ((steelyardref02_Times.f k x563001 x570001).bind fun t570 => ((steelyardref03_told.f k (x563000 != x570000) t570 (wrap64 (x563002 + x570002))).bind fun bt573 => (some (bt573.1, bt573.2.1, bt573.2.2.1, bt573.2.2.2))))
def steelyardref03_Mul.f (k : Nat) (a0_0 : Bool) (l0_1 : List Int) (a0_2 : Int) (a1_0 : Bool) (l1_1 : List Int) (a1_2 : Int) : Option (Bool × List Int × Int × Int) := (steelyardref03_Made.f k a0_0 l0_1 a0_2).bind fun bt556 => ((steelyardref03_Made.f k a1_0 l1_1 a1_2).bind fun bt563 => (if bt556.2.2.2 = true then (steelyardref03_Mul.j0 k (!bt563.2.2.2) bt556.1 bt556.2.1 bt556.2.2.1 bt563.1 bt563.2.1 bt563.2.2.1) else (steelyardref03_Mul.j0 k true bt556.1 bt556.2.1 bt556.2.2.1 bt563.1 bt563.2.1 bt563.2.2.1)))
theorem steelyardref03_Mul.mono_l : ∀ k, (∀ y0 y1 y2 y3 y4 y5 y6, LeO (steelyardref03_Mul.j0 k y0 y1 y2 y3 y4 y5 y6) (steelyardref03_Mul.j0 (k + 1) y0 y1 y2 y3 y4 y5 y6))
 | 0 => fun _ _ _ _ _ _ _ r h => by simp [steelyardref03_Mul.j0] at h
 | k + 1 => by
  have ih0 := steelyardref03_Mul.mono_l k
  ·intro y0 y1 y2 y3 y4 y5 y6
   unfold steelyardref03_Mul.j0
   repeat' first
   | (with_reducible exact ih0 _ _ _ _ _ _ _)
   | (with_reducible exact steelyardref02_Times.mono _ _ _)
   | (with_reducible exact steelyardref03_Made.mono _ _ _ _)
   | (with_reducible exact steelyardref03_told.mono _ _ _ _)
   | (with_reducible exact LeO.refl _)
   | (with_reducible exact LeO.none _)
   | (with_reducible refine LeO.ite ?_ ?_)
   | (with_reducible refine LeO.bind ?_ (fun _ => ?_))
   | exact ih0 _ _ _ _ _ _ _
   | exact steelyardref02_Times.mono _ _ _
   | exact steelyardref03_Made.mono _ _ _ _
   | exact steelyardref03_told.mono _ _ _ _
   | exact LeO.none _
   | refine LeO.ite ?_ ?_
   | refine LeO.bind ?_ (fun _ => ?_)
theorem steelyardref03_Mul.mono : ∀ a0 a1 a2 a3 a4 a5 k, LeO (steelyardref03_Mul.f k a0 a1 a2 a3 a4 a5) (steelyardref03_Mul.f (k + 1) a0 a1 a2 a3 a4 a5) := by
 intro a0 a1 a2 a3 a4 a5 k
 have ih0 := steelyardref03_Mul.mono_l k
 unfold steelyardref03_Mul.f
 repeat' first
   | (with_reducible exact ih0 _ _ _ _ _ _ _)
   | (with_reducible exact steelyardref02_Times.mono _ _ _)
   | (with_reducible exact steelyardref03_Made.mono _ _ _ _)
   | (with_reducible exact steelyardref03_told.mono _ _ _ _)
   | (with_reducible exact LeO.refl _)
   | (with_reducible exact LeO.none _)
   | (with_reducible refine LeO.ite ?_ ?_)
   | (with_reducible refine LeO.bind ?_ (fun _ => ?_))
   | exact ih0 _ _ _ _ _ _ _
   | exact steelyardref02_Times.mono _ _ _
   | exact steelyardref03_Made.mono _ _ _ _
   | exact steelyardref03_told.mono _ _ _ _
   | exact LeO.none _
   | refine LeO.ite ?_ ?_
   | refine LeO.bind ?_ (fun _ => ?_)
def steelyardref03_Mul.T5 : Bool × List (List Nat × List Nat) := (true, [([], []), ([0], [0]), ([], []), ([2], [2]), ([1, 3], [1, 3]), ([], []), ([5], [5]), ([], []), ([7], [7]), ([6, 8], [6, 8]), ([], []), ([10], [10]), ([], []), ([12], [12]), ([11, 13], [11, 13]), ([4, 9, 14, 9], [4, 9, 14]), ([15], [15]), ([15], [15]), ([16, 15, 0, 1, 2, 3, 4, 5, 6, 7, 8, 9, 10, 11, 12, 13, 14, 15, 16, 17], [16]), ([17, 18, 0, 1, 2, 3, 4, 5, 6, 7, 8, 9, 10, 11, 12, 13, 14, 15, 16, 17, 18], [17])])
def steelyardref03_Mul.B5 : List Nat := [0, 1, 0, 4, 15, 0, 32, 0, 128, 480, 0, 1024, 0, 4096, 15360, 32767, 65535, 65535, 262143, 524287]
theorem steelyardref03_Mul.tab5 : rtab .any (opsOf Try.f36 5) = steelyardref03_Mul.T5 := by kernel_rfl
theorem steelyardref03_Mul.bits5 : waitsOk steelyardref03_Mul.T5.2 steelyardref03_Mul.B5 = true := by kernel_rfl
set_option maxHeartbeats 3000000 in
set_option maxRecDepth 100000 in
theorem steelyardref03_Mul.calls (k : Nat) (a0_0 : Bool) (A0_1 : Option Addr) (c0_1 : Nat) (l0_1 : List Int) (a0_2 : Int) (a1_0 : Bool) (A1_1 : Option Addr) (c1_1 : Nat) (l1_1 : List Int) (a1_2 : Int) (r1 : Bool) (r2 : List Int) (r3 : Int) (r4 : Int) (w : World) (hr0_1 : Kd.C (Kd.int .u32) w A0_1 l0_1.length l0_1) (hc0_1 : l0_1.length ≤ c0_1) (hr1_1 : Kd.C (Kd.int .u32) w A1_1 l1_1.length l1_1) (hc1_1 : l1_1.length ≤ c1_1) (h : steelyardref03_Mul.f k a0_0 l0_1 a0_2 a1_0 l1_1 a1_2 = some (r1, r2, r3, r4)) :
  Calls Try.prog 36 #[.agg #[.bool a0_0, .slice A0_1 l0_1.length c0_1, .int .i64 a0_2], .agg #[.bool a1_0, .slice A1_1 l1_1.length c1_1, .int .i64 a1_2]] w fun e w' => ∃ v1_ : Value, e = .returned (.tuple #[.agg #[.bool r1, v1_, .int .i64 r3], .int .i64 r4]) ∧ Kd.R (Kd.int .u32) 72 w' w.heap.size (fun _ => True) v1_ r2 ∧ Below w.heap.size w w' := by
 have hu43 := Try.underlying43
 have HR0_1 := Aside0.mk hr0_1
 have HC0_1 := Aside0.mk hc0_1
 clear hr0_1 hc0_1
 have HR1_1 := Aside0.mk hr1_1
 have HC1_1 := Aside0.mk hc1_1
 clear hr1_1 hc1_1
 have HB := Aside0.mk (Below.refl w.heap.size w)
 have H : ((steelyardref03_Made.f k a0_0 l0_1 a0_2).bind fun bt556 => ((steelyardref03_Made.f k a1_0 l1_1 a1_2).bind fun bt563 => (if bt556.2.2.2 = true then (steelyardref03_Mul.j0 k (!bt563.2.2.2) bt556.1 bt556.2.1 bt556.2.2.1 bt563.1 bt563.2.1 bt563.2.2.1) else (steelyardref03_Mul.j0 k true bt556.1 bt556.2.1 bt556.2.2.1 bt563.1 bt563.2.1 bt563.2.2.1)))) = some (r1, r2, r3, r4) := h
 clear h
 obtain ⟨⟨t556, t557, t560, t561⟩, A3, H⟩ := ob_ H
 try dsimp only at H
 obtain ⟨⟨t563, t564, t567, t568⟩, A4, H⟩ := ob_ H
 try dsimp only at H
 have HC5 := Aside0.mk H
 clear H
 go_enter Try.func36, Try.ntmps36
 go_upto_region 3 with (first | ((with_reducible refine gate_dst (N := 2) rfl ?_); refine box_event ?hg (N := 2) ?hd (cs := #[.bool a0_0, .slice A0_1 l0_1.length c0_1, .int .i64 a0_2]) (t := 43) ?hr ?_; (case hd => rfl); (case hg => rfl); (case hr => first | (go_simp; done) | (go_simp; rfl)); intro gb553 hg w6 hbox hb; have n0_ := bs_ HB hb; have n1_ := Aside0.mk (hbox); have n2_ := ge_ HB hg; have n3_ := ge_ HB hg; clear HB; have HB := n0_; have BK553 := n1_; have GW553 := n2_; have GE553 := n3_; clear n0_ n1_ n2_ n3_; clear hb hbox hg) | ((with_reducible refine gate_dst (N := 3) rfl ?_); refine box_event ?hg (N := 3) ?hd (cs := #[.bool a1_0, .slice A1_1 l1_1.length c1_1, .int .i64 a1_2]) (t := 43) ?hr ?_; (case hd => rfl); (case hg => rfl); (case hr => first | (go_simp; done) | (go_simp; rfl)); intro gb554 hg w7 hbox hb; have n0_ := kb_ BK553 hb; have n1_ := bs_ HB hb; have n2_ := Aside0.mk (hbox); have n3_ := ge_ HB hg; have n4_ := ge_ HB hg; have n5_ := nlt_ BK553 hg; have n6_ := ngt_ BK553 hg; clear BK553; clear HB; have BK553 := n0_; have HB := n1_; have BK554 := n2_; have GW554 := n3_; have GE554 := n4_; have NB553_554 := n5_; have NB554_553 := n6_; clear n0_ n1_ n2_ n3_ n4_ n5_ n6_; clear hb hbox hg) | ((with_reducible refine gate_dst (N := 4) rfl ?_); refine box_event ?hg (N := 4) ?hd (cs := #[.bool false, .slice none 0 0, .int .i64 0]) (t := 43) ?hr ?_; (case hd => rfl); (case hg => rfl); (case hr => first | (go_simp; done) | (go_simp; rfl)); intro gb555 hg w8 hbox hb; have n0_ := kb_ BK553 hb; have n1_ := kb_ BK554 hb; have n2_ := bs_ HB hb; have n3_ := Aside0.mk (hbox); have n4_ := ge_ HB hg; have n5_ := ge_ HB hg; have n6_ := nlt_ BK553 hg; have n7_ := ngt_ BK553 hg; have n8_ := nlt_ BK554 hg; have n9_ := ngt_ BK554 hg; clear BK553; clear BK554; clear HB; have BK553 := n0_; have BK554 := n1_; have HB := n2_; have BK555 := n3_; have GW555 := n4_; have GE555 := n5_; have NB553_555 := n6_; have NB555_553 := n7_; have NB554_555 := n8_; have NB555_554 := n9_; clear n0_ n1_ n2_ n3_ n4_ n5_ n6_ n7_ n8_ n9_; clear hb hbox hg; have hnb9 := NB553_554.out; have hnc9 := NB554_553.out; have hnb10 := NB553_555.out; have hnc10 := NB555_553.out; have hcz11_0 : w8.cell? ⟨gb553, 0, none⟩ = some (.bool a0_0) := (blk_cell BK553.out 0).trans rfl; have hcz11_1 : w8.cell? ⟨gb553, 1, none⟩ = some (.slice A0_1 l0_1.length c0_1) := (blk_cell BK553.out 1).trans rfl; have hcz11_2 : w8.cell? ⟨gb553, 2, none⟩ = some (.int .i64 a0_2) := (blk_cell BK553.out 2).trans rfl; have hfz11_0 := blk_frozen BK553.out 0; have hfz11_1 := blk_frozen BK553.out 1; have hfz11_2 := blk_frozen BK553.out 2) | ((with_reducible refine gate_callee (f := 57) rfl ?_); refine goesM (some 12) Try.func57 #[.agg #[.bool a0_0, .slice A0_1 l0_1.length c0_1, .int .i64 a0_2]] ?_; (with_reducible refine (steelyardref03_Made.calls k a0_0 _ _ l0_1 a0_2 t556 t557 t560 t561 _ ?side1 ?side2 A3.out).mono ?_); (case side1 => repeat (first | exact (Kd.C_below HR0_1.out HB.out) | (with_reducible first | apply cA | apply cN | apply cD))); (case side2 => exact HC0_1.out); rintro e w12 ⟨v558, rfl, ho0, hb⟩; refine ⟨_, rfl, ?_⟩; have n0_ := Aside0.mk (Kd.R_lower ho0 (below_size (bl_ HB))); have n1_ := kb_ BK553 hb; have n2_ := kb_ BK554 hb; have n3_ := kb_ BK555 hb; have n4_ := bs_ HB hb; clear BK553; clear BK554; clear BK555; clear HB; have HO559 := n0_; have BK553 := n1_; have BK554 := n2_; have BK555 := n3_; have HB := n4_; clear n0_ n1_ n2_ n3_ n4_; (try clear hb); (try clear hb2); (try clear hk); (try clear hi); (try clear ho0)) | ((with_reducible refine gate_dst (N := 6) rfl ?_); refine box_event ?hg (N := 6) ?hd (cs := #[.bool false, .slice none 0 0, .int .i64 0]) (t := 43) ?hr ?_; (case hd => rfl); (case hg => rfl); (case hr => first | (go_simp; done) | (go_simp; rfl)); intro gb562 hg w13 hbox hb; have n0_ := Aside0.mk (Kd.R_below (by (with_reducible repeat (first | apply rA | apply rN | apply rD)); exact HO559.out) hb); have n1_ := kb_ BK553 hb; have n2_ := kb_ BK554 hb; have n3_ := kb_ BK555 hb; have n4_ := bs_ HB hb; have n5_ := Aside0.mk (hbox); have n6_ := ge_ HB hg; have n7_ := ge_ HB hg; have n8_ := nlt_ BK553 hg; have n9_ := ngt_ BK553 hg; have n10_ := nlt_ BK554 hg; have n11_ := ngt_ BK554 hg; have n12_ := nlt_ BK555 hg; have n13_ := ngt_ BK555 hg; clear HO559; clear BK553; clear BK554; clear BK555; clear HB; have HO559 := n0_; have BK553 := n1_; have BK554 := n2_; have BK555 := n3_; have HB := n4_; have BK562 := n5_; have GW562 := n6_; have GE562 := n7_; have NB553_562 := n8_; have NB562_553 := n9_; have NB554_562 := n10_; have NB562_554 := n11_; have NB555_562 := n12_; have NB562_555 := n13_; clear n0_ n1_ n2_ n3_ n4_ n5_ n6_ n7_ n8_ n9_ n10_ n11_ n12_ n13_; clear hb hbox hg; have hnb14 := NB562_553.out; have hnc14 := NB553_562.out; have hnb15 := NB562_554.out; have hnc15 := NB554_562.out; have hnb16 := NB562_555.out; have hnc16 := NB555_562.out; have hcz17_0 : w13.cell? ⟨gb562, 0, none⟩ = some (.bool false) := (blk_cell BK562.out 0).trans rfl; have hcz17_1 : w13.cell? ⟨gb562, 1, none⟩ = some (.slice none 0 0) := (blk_cell BK562.out 1).trans rfl; have hcz17_2 : w13.cell? ⟨gb562, 2, none⟩ = some (.int .i64 0) := (blk_cell BK562.out 2).trans rfl; have hfz17_0 := blk_frozen BK562.out 0; have hfz17_1 := blk_frozen BK562.out 1; have hfz17_2 := blk_frozen BK562.out 2; obtain ⟨Ao18, co18, eo18⟩ := Kd.R_slice HO559.out; subst eo18; have hnb19 := NB554_555.out; have hnc19 := NB555_554.out; have hcz20_0 : w13.cell? ⟨gb554, 0, none⟩ = some (.bool a1_0) := (blk_cell BK554.out 0).trans rfl; have hcz20_1 : w13.cell? ⟨gb554, 1, none⟩ = some (.slice A1_1 l1_1.length c1_1) := (blk_cell BK554.out 1).trans rfl; have hcz20_2 : w13.cell? ⟨gb554, 2, none⟩ = some (.int .i64 a1_2) := (blk_cell BK554.out 2).trans rfl; have hfz20_0 := blk_frozen BK554.out 0; have hfz20_1 := blk_frozen BK554.out 1; have hfz20_2 := blk_frozen BK554.out 2) | ((with_reducible refine gate_callee (f := 57) rfl ?_); refine goesM (some 17) Try.func57 #[.agg #[.bool a1_0, .slice A1_1 l1_1.length c1_1, .int .i64 a1_2]] ?_; (with_reducible refine (steelyardref03_Made.calls k a1_0 _ _ l1_1 a1_2 t563 t564 t567 t568 _ ?side1 ?side2 A4.out).mono ?_); (case side1 => exact Kd.C_below HR1_1.out (bl_ HB)); (case side2 => exact HC1_1.out); rintro e w21 ⟨v565, rfl, ho0, hb⟩; refine ⟨_, rfl, ?_⟩; have n0_ := Aside0.mk (Kd.R_elder' (by (with_reducible repeat (first | apply rA | apply rN | apply rD)); exact (Kd.R_mono (Kd.R_far (p := ⟨gb562, 2, none⟩) (Kd.R_far (p := ⟨gb562, 1, none⟩) (Kd.R_far (p := ⟨gb562, 0, none⟩) (Kd.R_types HO559.out BK562.out (by decide)) (fun _ hk => hk.2) (.bool t556)) (fun _ hk => hk.2) (.slice Ao18 t557.length co18)) (fun _ hk => hk.2) (.int .i64 t560)) (fun _ h_ => h_.1))) (Kd.R_base ho0) hb); have n1_ := Aside0.mk (Kd.R_lower (Kd.R_new' ho0 (Kd.R_lt (by (with_reducible repeat (first | apply rA | apply rN | apply rD)); exact (Kd.R_mono (Kd.R_far (p := ⟨gb562, 2, none⟩) (Kd.R_far (p := ⟨gb562, 1, none⟩) (Kd.R_far (p := ⟨gb562, 0, none⟩) (Kd.R_types HO559.out BK562.out (by decide)) (fun _ hk => hk.2) (.bool t556)) (fun _ hk => hk.2) (.slice Ao18 t557.length co18)) (fun _ hk => hk.2) (.int .i64 t560)) (fun _ h_ => h_.1))))) (below_size (bl_ HB))); have n2_ := Aside0.mk (blk_below (g := gb553) (o := .cells #[.bool a0_0, .slice A0_1 l0_1.length c0_1, .int .i64 a0_2] 43 (0, 0)) (by (with_reducible repeat (first | apply bN | apply bD | apply bA)); refine blk_far ?_ NB553_562.out _; (with_reducible repeat (first | apply bN | apply bD | apply bA)); refine blk_far ?_ NB553_562.out _; (with_reducible repeat (first | apply bN | apply bD | apply bA)); refine blk_far ?_ NB553_562.out _; (with_reducible repeat (first | apply bN | apply bD | apply bA)); exact BK553.out) hb); have n3_ := Aside0.mk (blk_below (g := gb554) (o := .cells #[.bool a1_0, .slice A1_1 l1_1.length c1_1, .int .i64 a1_2] 43 (0, 0)) (by (with_reducible repeat (first | apply bN | apply bD | apply bA)); refine blk_far ?_ NB554_562.out _; (with_reducible repeat (first | apply bN | apply bD | apply bA)); refine blk_far ?_ NB554_562.out _; (with_reducible repeat (first | apply bN | apply bD | apply bA)); refine blk_far ?_ NB554_562.out _; (with_reducible repeat (first | apply bN | apply bD | apply bA)); exact BK554.out) hb); have n4_ := Aside0.mk (blk_below (g := gb555) (o := .cells #[.bool false, .slice none 0 0, .int .i64 0] 43 (0, 0)) (by (with_reducible repeat (first | apply bN | apply bD | apply bA)); refine blk_far ?_ NB555_562.out _; (with_reducible repeat (first | apply bN | apply bD | apply bA)); refine blk_far ?_ NB555_562.out _; (with_reducible repeat (first | apply bN | apply bD | apply bA)); refine blk_far ?_ NB555_562.out _; (with_reducible repeat (first | apply bN | apply bD | apply bA)); exact BK555.out) hb); have n5_ := Aside0.mk (blk_below (g := gb562) (o := .cells #[.bool t556, .slice Ao18 t557.length co18, .int .i64 t560] 43 (0, 0)) (by (with_reducible repeat (first | apply bN | apply bD | apply bA)); refine blk_put (cs := #[.bool t556, .slice Ao18 t557.length co18, .int .i64 0]) ?_ 2 _ rfl; (with_reducible repeat (first | apply bN | apply bD | apply bA)); refine blk_put (cs := #[.bool t556, .slice none 0 0, .int .i64 0]) ?_ 1 _ rfl; (with_reducible repeat (first | apply bN | apply bD | apply bA)); refine blk_put (cs := #[.bool false, .slice none 0 0, .int .i64 0]) ?_ 0 _ rfl; (with_reducible repeat (first | apply bN | apply bD | apply bA)); exact BK562.out) hb); have n6_ := bs_ HB hb; clear HO559; clear BK553; clear BK554; clear BK555; clear BK562; clear HB; have HO559 := n0_; have HO566 := n1_; have BK553 := n2_; have BK554 := n3_; have BK555 := n4_; have BK562 := n5_; have HB := n6_; clear n0_ n1_ n2_ n3_ n4_ n5_ n6_; (try clear hb); (try clear hb2); (try clear hk); (try clear hi); (try clear ho0)) | ((with_reducible refine gate_dst (N := 8) rfl ?_); refine box_event ?hg (N := 8) ?hd (cs := #[.bool false, .slice none 0 0, .int .i64 0]) (t := 43) ?hr ?_; (case hd => rfl); (case hg => rfl); (case hr => first | (go_simp; done) | (go_simp; rfl)); intro gb569 hg w22 hbox hb; have n0_ := Aside0.mk (Kd.R_below (by (with_reducible repeat (first | apply rA | apply rN | apply rD)); exact HO559.out) hb); have n1_ := Aside0.mk (Kd.R_below (by (with_reducible repeat (first | apply rA | apply rN | apply rD)); exact HO566.out) hb); have n2_ := kb_ BK553 hb; have n3_ := kb_ BK554 hb; have n4_ := kb_ BK555 hb; have n5_ := kb_ BK562 hb; have n6_ := bs_ HB hb; have n7_ := Aside0.mk (hbox); have n8_ := ge_ HB hg; have n9_ := ge_ HB hg; have n10_ := nlt_ BK553 hg; have n11_ := ngt_ BK553 hg; have n12_ := nlt_ BK554 hg; have n13_ := ngt_ BK554 hg; have n14_ := nlt_ BK555 hg; have n15_ := ngt_ BK555 hg; have n16_ := nlt_ BK562 hg; have n17_ := ngt_ BK562 hg; clear HO559; clear HO566; clear BK553; clear BK554; clear BK555; clear BK562; clear HB; have HO559 := n0_; have HO566 := n1_; have BK553 := n2_; have BK554 := n3_; have BK555 := n4_; have BK562 := n5_; have HB := n6_; have BK569 := n7_; have GW569 := n8_; have GE569 := n9_; have NB553_569 := n10_; have NB569_553 := n11_; have NB554_569 := n12_; have NB569_554 := n13_; have NB555_569 := n14_; have NB569_555 := n15_; have NB562_569 := n16_; have NB569_562 := n17_; clear n0_ n1_ n2_ n3_ n4_ n5_ n6_ n7_ n8_ n9_ n10_ n11_ n12_ n13_ n14_ n15_ n16_ n17_; clear hb hbox hg; have hnb23 := NB569_553.out; have hnc23 := NB553_569.out; have hnb24 := NB569_554.out; have hnc24 := NB554_569.out; have hnb25 := NB569_555.out; have hnc25 := NB555_569.out; have hnb26 := NB569_562.out; have hnc26 := NB562_569.out; have hcz27_0 : w22.cell? ⟨gb569, 0, none⟩ = some (.bool false) := (blk_cell BK569.out 0).trans rfl; have hcz27_1 : w22.cell? ⟨gb569, 1, none⟩ = some (.slice none 0 0) := (blk_cell BK569.out 1).trans rfl; have hcz27_2 : w22.cell? ⟨gb569, 2, none⟩ = some (.int .i64 0) := (blk_cell BK569.out 2).trans rfl; have hfz27_0 := blk_frozen BK569.out 0; have hfz27_1 := blk_frozen BK569.out 1; have hfz27_2 := blk_frozen BK569.out 2; obtain ⟨Ao28, co28, eo28⟩ := Kd.R_slice HO566.out; subst eo28))
 (try simp only [Act.put, List.setIfInBounds_toArray, List.set_cons_zero, List.set_cons_succ])
 go_cut [25] (fun v25 wc => ∃ (kq : Nat) (x25_4 : Bool), v25 = .bool x25_4 ∧ Aside0 (steelyardref03_Mul.j0 kq x25_4 t556 t557 t560 t563 t564 t567 = some (r1, r2, r3, r4)) ∧ Aside0 (kq ≤ k) ∧ Aside0 (Kd.R (Kd.int .u32) 72 wc w.heap.size (fun k_ => some k_ ≠ ((.slice Ao28 t564.length co28) : Value).ownBlock) (.slice Ao18 t557.length co18) t557) ∧ Aside0 (Kd.R (Kd.int .u32) 72 wc w.heap.size (fun k_ => some k_ ≠ ((.slice Ao18 t557.length co18) : Value).ownBlock) (.slice Ao28 t564.length co28) t564) ∧ Aside0 (wc.heap[gb553]? = some (.cells #[.bool a0_0, (.slice A0_1 l0_1.length c0_1), .int .i64 a0_2] 43 (0, 0))) ∧ Aside0 (wc.heap[gb554]? = some (.cells #[.bool a1_0, (.slice A1_1 l1_1.length c1_1), .int .i64 a1_2] 43 (0, 0))) ∧ Aside0 (wc.heap[gb555]? = some (.cells #[.bool false, (.slice none 0 0), .int .i64 0] 43 (0, 0))) ∧ Aside0 (wc.heap[gb562]? = some (.cells #[.bool t556, (.slice Ao18 t557.length co18), .int .i64 t560] 43 (0, 0))) ∧ Aside0 (wc.heap[gb569]? = some (.cells #[.bool t563, (.slice Ao28 t564.length co28), .int .i64 t567] 43 (0, 0))) ∧ Aside0 (Below w.heap.size w wc))
 case first =>
  have H := HC5.out
  clear HC5
  by_cases c29 : t561 = true
  ·subst c29
   have H1 : (steelyardref03_Mul.j0 k (!t568) t556 t557 t560 t563 t564 t567) = some (r1, r2, r3, r4) := by rw [if_pos rfl] at H; exact H
   clear H
   have H := H1
   clear H1
   have H' := Aside0.mk H
   clear H
   go_wp2
   go_meet
   case rel => exact ⟨_, (!t568), (by first | rfl | (simp; done) | (simp [*]; done)), H', ⟨by first | omega | exact Nat.le_refl _⟩, ⟨by (with_reducible repeat (first | apply rA | apply rN | apply rD)); exact Kd.R_mono (Kd.R_far (p := ⟨gb569, 2, none⟩) (Kd.R_far (p := ⟨gb569, 1, none⟩) (Kd.R_far (p := ⟨gb569, 0, none⟩) (Kd.R_types HO559.out BK569.out (by decide)) (fun _ hk => hk.2) (.bool t563)) (fun _ hk => hk.2) (.slice Ao28 t564.length co28)) (fun _ hk => hk.2) (.int .i64 t567)) (fun _ hk => hk.1.2)⟩, ⟨by (with_reducible repeat (first | apply rA | apply rN | apply rD)); exact Kd.R_mono (Kd.R_far (p := ⟨gb569, 2, none⟩) (Kd.R_far (p := ⟨gb569, 1, none⟩) (Kd.R_far (p := ⟨gb569, 0, none⟩) (Kd.R_types HO566.out BK569.out (by decide)) (fun _ hk => hk.2) (.bool t563)) (fun _ hk => hk.2) (.slice Ao28 t564.length co28)) (fun _ hk => hk.2) (.int .i64 t567)) (fun _ hk => hk.1.2)⟩, ⟨by (with_reducible repeat (first | apply bN | apply bD | apply bA)); refine blk_far ?_ NB553_569.out _; (with_reducible repeat (first | apply bN | apply bD | apply bA)); refine blk_far ?_ NB553_569.out _; (with_reducible repeat (first | apply bN | apply bD | apply bA)); refine blk_far ?_ NB553_569.out _; (with_reducible repeat (first | apply bN | apply bD | apply bA)); exact BK553.out⟩, ⟨by (with_reducible repeat (first | apply bN | apply bD | apply bA)); refine blk_far ?_ NB554_569.out _; (with_reducible repeat (first | apply bN | apply bD | apply bA)); refine blk_far ?_ NB554_569.out _; (with_reducible repeat (first | apply bN | apply bD | apply bA)); refine blk_far ?_ NB554_569.out _; (with_reducible repeat (first | apply bN | apply bD | apply bA)); exact BK554.out⟩, ⟨by (with_reducible repeat (first | apply bN | apply bD | apply bA)); refine blk_far ?_ NB555_569.out _; (with_reducible repeat (first | apply bN | apply bD | apply bA)); refine blk_far ?_ NB555_569.out _; (with_reducible repeat (first | apply bN | apply bD | apply bA)); refine blk_far ?_ NB555_569.out _; (with_reducible repeat (first | apply bN | apply bD | apply bA)); exact BK555.out⟩, ⟨by (with_reducible repeat (first | apply bN | apply bD | apply bA)); refine blk_far ?_ NB562_569.out _; (with_reducible repeat (first | apply bN | apply bD | apply bA)); refine blk_far ?_ NB562_569.out _; (with_reducible repeat (first | apply bN | apply bD | apply bA)); refine blk_far ?_ NB562_569.out _; (with_reducible repeat (first | apply bN | apply bD | apply bA)); exact BK562.out⟩, ⟨by (with_reducible repeat (first | apply bN | apply bD | apply bA)); refine blk_put (cs := #[.bool t563, .slice Ao28 t564.length co28, .int .i64 0]) ?_ 2 _ rfl; (with_reducible repeat (first | apply bN | apply bD | apply bA)); refine blk_put (cs := #[.bool t563, .slice none 0 0, .int .i64 0]) ?_ 1 _ rfl; (with_reducible repeat (first | apply bN | apply bD | apply bA)); refine blk_put (cs := #[.bool false, .slice none 0 0, .int .i64 0]) ?_ 0 _ rfl; (with_reducible repeat (first | apply bN | apply bD | apply bA)); exact BK569.out⟩, ⟨bl_ HB⟩⟩
  ·replace c29 := Bool.eq_false_iff.mpr c29
   subst c29
   have H1 : (steelyardref03_Mul.j0 k true t556 t557 t560 t563 t564 t567) = some (r1, r2, r3, r4) := by rw [if_neg (show ¬ (false = true) by decide)] at H; exact H
   clear H
   have H := H1
   clear H1
   have H' := Aside0.mk H
   clear H
   go_wp2
   go_meet
   case rel => exact ⟨_, (true), (by first | rfl | (simp; done) | (simp [*]; done)), H', ⟨by first | omega | exact Nat.le_refl _⟩, ⟨by (with_reducible repeat (first | apply rA | apply rN | apply rD)); exact Kd.R_mono (Kd.R_far (p := ⟨gb569, 2, none⟩) (Kd.R_far (p := ⟨gb569, 1, none⟩) (Kd.R_far (p := ⟨gb569, 0, none⟩) (Kd.R_types HO559.out BK569.out (by decide)) (fun _ hk => hk.2) (.bool t563)) (fun _ hk => hk.2) (.slice Ao28 t564.length co28)) (fun _ hk => hk.2) (.int .i64 t567)) (fun _ hk => hk.1.2)⟩, ⟨by (with_reducible repeat (first | apply rA | apply rN | apply rD)); exact Kd.R_mono (Kd.R_far (p := ⟨gb569, 2, none⟩) (Kd.R_far (p := ⟨gb569, 1, none⟩) (Kd.R_far (p := ⟨gb569, 0, none⟩) (Kd.R_types HO566.out BK569.out (by decide)) (fun _ hk => hk.2) (.bool t563)) (fun _ hk => hk.2) (.slice Ao28 t564.length co28)) (fun _ hk => hk.2) (.int .i64 t567)) (fun _ hk => hk.1.2)⟩, ⟨by (with_reducible repeat (first | apply bN | apply bD | apply bA)); refine blk_far ?_ NB553_569.out _; (with_reducible repeat (first | apply bN | apply bD | apply bA)); refine blk_far ?_ NB553_569.out _; (with_reducible repeat (first | apply bN | apply bD | apply bA)); refine blk_far ?_ NB553_569.out _; (with_reducible repeat (first | apply bN | apply bD | apply bA)); exact BK553.out⟩, ⟨by (with_reducible repeat (first | apply bN | apply bD | apply bA)); refine blk_far ?_ NB554_569.out _; (with_reducible repeat (first | apply bN | apply bD | apply bA)); refine blk_far ?_ NB554_569.out _; (with_reducible repeat (first | apply bN | apply bD | apply bA)); refine blk_far ?_ NB554_569.out _; (with_reducible repeat (first | apply bN | apply bD | apply bA)); exact BK554.out⟩, ⟨by (with_reducible repeat (first | apply bN | apply bD | apply bA)); refine blk_far ?_ NB555_569.out _; (with_reducible repeat (first | apply bN | apply bD | apply bA)); refine blk_far ?_ NB555_569.out _; (with_reducible repeat (first | apply bN | apply bD | apply bA)); refine blk_far ?_ NB555_569.out _; (with_reducible repeat (first | apply bN | apply bD | apply bA)); exact BK555.out⟩, ⟨by (with_reducible repeat (first | apply bN | apply bD | apply bA)); refine blk_far ?_ NB562_569.out _; (with_reducible repeat (first | apply bN | apply bD | apply bA)); refine blk_far ?_ NB562_569.out _; (with_reducible repeat (first | apply bN | apply bD | apply bA)); refine blk_far ?_ NB562_569.out _; (with_reducible repeat (first | apply bN | apply bD | apply bA)); exact BK562.out⟩, ⟨by (with_reducible repeat (first | apply bN | apply bD | apply bA)); refine blk_put (cs := #[.bool t563, .slice Ao28 t564.length co28, .int .i64 0]) ?_ 2 _ rfl; (with_reducible repeat (first | apply bN | apply bD | apply bA)); refine blk_put (cs := #[.bool t563, .slice none 0 0, .int .i64 0]) ?_ 1 _ rfl; (with_reducible repeat (first | apply bN | apply bD | apply bA)); refine blk_put (cs := #[.bool false, .slice none 0 0, .int .i64 0]) ?_ 0 _ rfl; (with_reducible repeat (first | apply bN | apply bD | apply bA)); exact BK569.out⟩, ⟨bl_ HB⟩⟩
 case rest =>
  clear HC5
  try clear c1
  try clear c2
  try clear p2
  try clear c3
  try clear c5
  try clear c9
  try clear c10
  try clear c14
  try clear c15
  try clear c16
  try clear c19
  try clear c23
  try clear c24
  try clear c25
  try clear c26
  try clear c29
  try clear hcz11_0
  try clear hcz11_1
  try clear hcz11_2
  try clear hcz17_0
  try clear hcz17_1
  try clear hcz17_2
  try clear hcz20_0
  try clear hcz20_1
  try clear hcz20_2
  try clear hcz27_0
  try clear hcz27_1
  try clear hcz27_2
  try clear hfz11_0
  try clear hfz11_1
  try clear hfz11_2
  try clear hfz17_0
  try clear hfz17_1
  try clear hfz17_2
  try clear hfz20_0
  try clear hfz20_1
  try clear hfz20_2
  try clear hfz27_0
  try clear hfz27_1
  try clear hfz27_2
  obtain ⟨kq, x25_4, rfl, HA, HJ4, HO_563001, HO_570001, BK553, BK554, BK555, BK562, BK569, HB⟩ := hcut
  cases kq with
  | zero => exact absurd HA.out (by simp [steelyardref03_Mul.j0])
  | succ kj4 =>
   have H := HA.out
   clear HA
   simp only [steelyardref03_Mul.j0] at H
   by_cases c30 : x25_4 = true
   ·subst c30
    have H1 : (some (false, ([] : List Int), 0, 2)) = some (r1, r2, r3, r4) := by rw [if_pos rfl] at H; exact H
    clear H
    have H := H1
    clear H1
    simp only [Option.some.injEq, Prod.mk.injEq] at H
    obtain ⟨rfl, rfl, rfl, rfl⟩ := H
    have hnb31 := NB555_553.out
    have hnc31 := NB553_555.out
    have hnb32 := NB555_554.out
    have hnc32 := NB554_555.out
    have hnb33 := NB555_562.out
    have hnc33 := NB562_555.out
    have hnb34 := NB555_569.out
    have hnc34 := NB569_555.out
    have hcz35_0 : wc.cell? ⟨gb555, 0, none⟩ = some (.bool false) := (blk_cell BK555.out 0).trans rfl
    have hcz35_1 : wc.cell? ⟨gb555, 1, none⟩ = some (.slice none 0 0) := (blk_cell BK555.out 1).trans rfl
    have hcz35_2 : wc.cell? ⟨gb555, 2, none⟩ = some (.int .i64 0) := (blk_cell BK555.out 2).trans rfl
    have hfz35_0 := blk_frozen BK555.out 0
    have hfz35_1 := blk_frozen BK555.out 1
    have hfz35_2 := blk_frozen BK555.out 2
    go_wp2
    refine bodyPost_ret (results_ct rfl _ _ gb555 43 #[.bool false, .slice none 0 0, .int .i64 0] (0, 0) _ rfl (by (with_reducible repeat (first | apply bN | apply bD | apply bA)); refine blk_put (cs := #[.bool false, .slice none 0 0, .int .i64 0]) ?_ 2 _ rfl; (with_reducible repeat (first | apply bN | apply bD | apply bA)); refine blk_put (cs := #[.bool false, .slice none 0 0, .int .i64 0]) ?_ 1 _ rfl; (with_reducible repeat (first | apply bN | apply bD | apply bA)); refine blk_put (cs := #[.bool false, .slice none 0 0, .int .i64 0]) ?_ 0 _ rfl; (with_reducible repeat (first | apply bN | apply bD | apply bA)); exact BK555.out) Try.underlying43 rfl (by kernel_rfl)) rfl ?_
    exact ⟨_, by first | rfl | (simp [errW_none, errW_some] <;> rfl) | (simp [*, errW_none, errW_some] <;> rfl), by first | exact Kd.R_nil _ _ _ _ _ | exact Kd.N_nil _ _ _ _ _ | exact Kd.V_nil _ _ _ _ _ | exact Kd.Q_nil _ _ _ _ _ | exact Kd.S_nil _ _ _ _ _, bl_ HB⟩
   ·replace c30 := Bool.eq_false_iff.mpr c30
    subst c30
    have H1 : ((steelyardref02_Times.f kj4 t557 t564).bind fun t570 => ((steelyardref03_told.f kj4 (t556 != t563) t570 (wrap64 (t560 + t567))).bind fun bt573 => (some (bt573.1, bt573.2.1, bt573.2.2.1, bt573.2.2.2)))) = some (r1, r2, r3, r4) := by rw [if_neg (show ¬ (false = true) by decide)] at H; exact H
    clear H
    have H := H1
    clear H1
    obtain ⟨t570, A36, H⟩ := ob_ H
    try dsimp only at H
    obtain ⟨⟨t573, t574, t577, t578⟩, A37, H⟩ := ob_ H
    try dsimp only at H
    simp only [Option.some.injEq, Prod.mk.injEq] at H
    obtain ⟨rfl, rfl, rfl, rfl⟩ := H
    try go_wp2
    have n0_ := Aside0.mk (Kd.R_drew HO_563001.out)
    have n1_ := Aside0.mk (Kd.R_drew HO_570001.out)
    have n2_ := Aside0.mk (blk_drew BK553.out)
    have n3_ := Aside0.mk (blk_drew BK554.out)
    have n4_ := Aside0.mk (blk_drew BK555.out)
    have n5_ := Aside0.mk (blk_drew BK562.out)
    have n6_ := Aside0.mk (blk_drew BK569.out)
    have n7_ := Aside0.mk (below_drew1 HB.out)
    clear HO_563001
    clear HO_570001
    clear BK553
    clear BK554
    clear BK555
    clear BK562
    clear BK569
    clear HB
    have HO_563001 := n0_
    have HO_570001 := n1_
    have BK553 := n2_
    have BK554 := n3_
    have BK555 := n4_
    have BK562 := n5_
    have BK569 := n6_
    have HB := n7_
    clear n0_ n1_ n2_ n3_ n4_ n5_ n6_ n7_
    refine start_ (n := 20) (S := fun w' => w'.cell? ⟨gb562, 0, none⟩ = some (.bool t556) ∧ w'.cell? ⟨gb562, 1, none⟩ = some (.slice Ao18 t557.length co18) ∧ w'.cell? ⟨gb562, 2, none⟩ = some (.int .i64 t560) ∧ w'.cell? ⟨gb569, 0, none⟩ = some (.bool t563) ∧ w'.cell? ⟨gb569, 1, none⟩ = some (.slice Ao28 t564.length co28) ∧ w'.cell? ⟨gb569, 2, none⟩ = some (.int .i64 t567)) (ds := []) #[false, false, false, false, false, false, false, false, false, false, false, false, false, false, false, false, false, false, false, false] (by kernel_rfl) rfl rfl ⟨(blk_cell BK562.out 0).trans rfl, (blk_cell BK562.out 1).trans rfl, (blk_cell BK562.out 2).trans rfl, (blk_cell BK569.out 0).trans rfl, (blk_cell BK569.out 1).trans rfl, (blk_cell BK569.out 2).trans rfl⟩ (fun hHeld => ?_); refine with_tabW steelyardref03_Mul.tab5 steelyardref03_Mul.bits5 (fun HT_ HW_ => ?_)
    generalize wc.drew = w38 at HO_563001 HO_570001 BK553 BK554 BK555 BK562 BK569 HB hHeld ⊢
    refine pure_ (i := 0) (N := some 27) (v := ?_) (a' := ?_) #[true, false, false, false, false, false, false, false, false, false, false, false, false, false, false, false, false, false, false, false] rfl rfl (any_of HT_.out (by kernel_rfl)) (fun _ _ _ h => h) (Or.inl ⟨by rfl, ?_⟩) ?_ ?_
    rotate_left
    ·intro w'
     go_simp
     with_reducible rfl
    rotate_left
    ·simp only [Act.put, List.setIfInBounds_toArray, List.set_cons_zero, List.set_cons_succ, i64_w, i32_w]
     rfl
    refine pure_ (i := 2) (N := some 29) (v := ?_) (a' := ?_) #[true, false, true, false, false, false, false, false, false, false, false, false, false, false, false, false, false, false, false, false] rfl rfl (any_of HT_.out (by kernel_rfl)) (fun _ _ _ h => h) (Or.inl ⟨by rfl, ?_⟩) ?_ ?_
    rotate_left
    ·intro w'
     go_simp
     with_reducible rfl
    rotate_left
    ·simp only [Act.put, List.setIfInBounds_toArray, List.set_cons_zero, List.set_cons_succ, i64_w, i32_w]
     rfl
    refine pure_ (i := 5) (N := some 32) (v := ?_) (a' := ?_) #[true, false, true, false, false, true, false, false, false, false, false, false, false, false, false, false, false, false, false, false] rfl rfl (any_of HT_.out (by kernel_rfl)) (fun _ _ _ h => h) (Or.inl ⟨by rfl, ?_⟩) ?_ ?_
    rotate_left
    ·intro w'
     go_simp
     with_reducible rfl
    rotate_left
    ·simp only [Act.put, List.setIfInBounds_toArray, List.set_cons_zero, List.set_cons_succ, i64_w, i32_w]
     rfl
    refine pure_ (i := 7) (N := some 34) (v := ?_) (a' := ?_) #[true, false, true, false, false, true, false, true, false, false, false, false, false, false, false, false, false, false, false, false] rfl rfl (any_of HT_.out (by kernel_rfl)) (fun _ _ _ h => h) (Or.inl ⟨by rfl, ?_⟩) ?_ ?_
    rotate_left
    ·intro w'
     go_simp
     with_reducible rfl
    rotate_left
    ·simp only [Act.put, List.setIfInBounds_toArray, List.set_cons_zero, List.set_cons_succ, i64_w, i32_w]
     rfl
    refine pure_ (i := 10) (N := some 37) (v := ?_) (a' := ?_) #[true, false, true, false, false, true, false, true, false, false, true, false, false, false, false, false, false, false, false, false] rfl rfl (any_of HT_.out (by kernel_rfl)) (fun _ _ _ h => h) (Or.inl ⟨by rfl, ?_⟩) ?_ ?_
    rotate_left
    ·intro w'
     go_simp
     with_reducible rfl
    rotate_left
    ·simp only [Act.put, List.setIfInBounds_toArray, List.set_cons_zero, List.set_cons_succ, i64_w, i32_w]
     rfl
    refine pure_ (i := 12) (N := some 39) (v := ?_) (a' := ?_) #[true, false, true, false, false, true, false, true, false, false, true, false, true, false, false, false, false, false, false, false] rfl rfl (any_of HT_.out (by kernel_rfl)) (fun _ _ _ h => h) (Or.inl ⟨by rfl, ?_⟩) ?_ ?_
    rotate_left
    ·intro w'
     go_simp
     with_reducible rfl
    rotate_left
    ·simp only [Act.put, List.setIfInBounds_toArray, List.set_cons_zero, List.set_cons_succ, i64_w, i32_w]
     rfl
    refine take_ (i := 1) (N := some 28) (v := ?_) (a' := ?_) #[true, true, true, false, false, true, false, true, false, false, true, false, true, false, false, false, false, false, false, false] rfl rfl (take_ofW HT_.out HW_.out (by kernel_rfl)) (fun _ _ _ h => h) (Or.inl ⟨by rfl, ?_⟩) hHeld ?_ ?_
    rotate_left
    ·rintro w' ⟨s0, s1, s2, s3, s4, s5⟩
     go_simp
     with_reducible rfl
    rotate_left
    ·simp only [Act.put, List.setIfInBounds_toArray, List.set_cons_zero, List.set_cons_succ, i64_w, i32_w]
     rfl
    refine take_ (i := 3) (N := some 30) (v := ?_) (a' := ?_) #[true, true, true, true, false, true, false, true, false, false, true, false, true, false, false, false, false, false, false, false] rfl rfl (take_ofW HT_.out HW_.out (by kernel_rfl)) (fun _ _ _ h => h) (Or.inl ⟨by rfl, ?_⟩) hHeld ?_ ?_
    rotate_left
    ·rintro w' ⟨s0, s1, s2, s3, s4, s5⟩
     go_simp
     with_reducible rfl
    rotate_left
    ·simp only [Act.put, List.setIfInBounds_toArray, List.set_cons_zero, List.set_cons_succ, i64_w, i32_w]
     rfl
    refine pure_ (i := 4) (N := some 31) (v := ?_) (a' := ?_) #[true, true, true, true, true, true, false, true, false, false, true, false, true, false, false, false, false, false, false, false] rfl rfl (any_of HT_.out (by kernel_rfl)) (fun _ _ _ h => h) (Or.inl ⟨by rfl, ?_⟩) ?_ ?_
    rotate_left
    ·intro w'
     go_simp
     with_reducible rfl
    rotate_left
    ·simp only [Act.put, List.setIfInBounds_toArray, List.set_cons_zero, List.set_cons_succ, i64_w, i32_w]
     rfl
    refine take_ (i := 6) (N := some 33) (v := ?_) (a' := ?_) #[true, true, true, true, true, true, true, true, false, false, true, false, true, false, false, false, false, false, false, false] rfl rfl (take_ofW HT_.out HW_.out (by kernel_rfl)) (fun _ _ _ h => h) (Or.inl ⟨by rfl, ?_⟩) hHeld ?_ ?_
    rotate_left
    ·rintro w' ⟨s0, s1, s2, s3, s4, s5⟩
     go_simp
     with_reducible rfl
    rotate_left
    ·simp only [Act.put, List.setIfInBounds_toArray, List.set_cons_zero, List.set_cons_succ, i64_w, i32_w]
     rfl
    refine take_ (i := 8) (N := some 35) (v := ?_) (a' := ?_) #[true, true, true, true, true, true, true, true, true, false, true, false, true, false, false, false, false, false, false, false] rfl rfl (take_ofW HT_.out HW_.out (by kernel_rfl)) (fun _ _ _ h => h) (Or.inl ⟨by rfl, ?_⟩) hHeld ?_ ?_
    rotate_left
    ·rintro w' ⟨s0, s1, s2, s3, s4, s5⟩
     go_simp
     with_reducible rfl
    rotate_left
    ·simp only [Act.put, List.setIfInBounds_toArray, List.set_cons_zero, List.set_cons_succ, i64_w, i32_w]
     rfl
    refine take_ (i := 11) (N := some 38) (v := ?_) (a' := ?_) #[true, true, true, true, true, true, true, true, true, false, true, true, true, false, false, false, false, false, false, false] rfl rfl (take_ofW HT_.out HW_.out (by kernel_rfl)) (fun _ _ _ h => h) (Or.inl ⟨by rfl, ?_⟩) hHeld ?_ ?_
    rotate_left
    ·rintro w' ⟨s0, s1, s2, s3, s4, s5⟩
     go_simp
     with_reducible rfl
    rotate_left
    ·simp only [Act.put, List.setIfInBounds_toArray, List.set_cons_zero, List.set_cons_succ, i64_w, i32_w]
     rfl
    refine take_ (i := 13) (N := some 40) (v := ?_) (a' := ?_) #[true, true, true, true, true, true, true, true, true, false, true, true, true, true, false, false, false, false, false, false] rfl rfl (take_ofW HT_.out HW_.out (by kernel_rfl)) (fun _ _ _ h => h) (Or.inl ⟨by rfl, ?_⟩) hHeld ?_ ?_
    rotate_left
    ·rintro w' ⟨s0, s1, s2, s3, s4, s5⟩
     go_simp
     with_reducible rfl
    rotate_left
    ·simp only [Act.put, List.setIfInBounds_toArray, List.set_cons_zero, List.set_cons_succ, i64_w, i32_w]
     rfl
    refine pure_ (i := 14) (N := some 41) (v := ?_) (a' := ?_) #[true, true, true, true, true, true, true, true, true, false, true, true, true, true, true, false, false, false, false, false] rfl rfl (any_of HT_.out (by kernel_rfl)) (fun _ _ _ h => h) (Or.inl ⟨by rfl, ?_⟩) ?_ ?_
    rotate_left
    ·intro w'
     go_simp
     with_reducible rfl
    rotate_left
    ·simp only [Act.put, List.setIfInBounds_toArray, List.set_cons_zero, List.set_cons_succ, i64_w, i32_w]
     rfl
    refine one_ (i := 9) (N := some 36) #[true, true, true, true, true, true, true, true, true, true, true, true, true, true, true, false, false, false, false, false] rfl rfl (one_of HT_.out (by kernel_rfl)) (by decide) (fun K hK => ?_)
    refine goes_ Try.func63 (by kernel_rfl) rfl #[.slice Ao18 t557.length co18, .slice Ao28 t564.length co28] (by rfl) rfl rfl (by (try simp only [List.map_toArray, List.map_cons, List.map_nil]); first | done | rfl | (simp only [List.length_drop, List.length_take]; rfl)) ?_
    with_reducible refine (steelyardref02_Times.calls kj4 _ _ t557 _ _ t564 t570 _ ?side1 ?side2 ?side3 ?side4 A36.out).mono ?_
    (case side1 => repeat (first | exact (Kd.R_reads' HO_563001.out).2.2 | (with_reducible first | apply cA | apply cN | apply cD)))
    (case side2 => exact (Kd.R_reads' HO_563001.out).2.1)
    (case side3 => repeat (first | exact (Kd.R_reads' HO_570001.out).2.2 | (with_reducible first | apply cA | apply cN | apply cD)))
    (case side4 => exact (Kd.R_reads' HO_570001.out).2.1)
    rintro e w39 ⟨v571, rfl, ho0, hb⟩
    refine ⟨_, rfl, ?_⟩
    have n0_ := Aside0.mk (Kd.R_elder' (by (with_reducible repeat (first | apply rA | apply rN | apply rD)); exact HO_563001.out) (Kd.R_base ho0) hb)
    have n1_ := Aside0.mk (Kd.R_elder' (by (with_reducible repeat (first | apply rA | apply rN | apply rD)); exact HO_570001.out) (Kd.R_base ho0) hb)
    have n2_ := Aside0.mk (Kd.R_lower (Kd.R_new' (Kd.R_new' ho0 (Kd.R_lt (by (with_reducible repeat (first | apply rA | apply rN | apply rD)); exact HO_563001.out))) (Kd.R_lt (by (with_reducible repeat (first | apply rA | apply rN | apply rD)); exact HO_570001.out))) (below_size (bl_ HB)))
    have n3_ := kb_ BK553 hb
    have n4_ := kb_ BK554 hb
    have n5_ := kb_ BK555 hb
    have n6_ := kb_ BK562 hb
    have n7_ := kb_ BK569 hb
    have n8_ := bs_ HB hb
    clear HO_563001
    clear HO_570001
    clear BK553
    clear BK554
    clear BK555
    clear BK562
    clear BK569
    clear HB
    have HO_563001 := n0_
    have HO_570001 := n1_
    have HO572 := n2_
    have BK553 := n3_
    have BK554 := n4_
    have BK555 := n5_
    have BK562 := n6_
    have BK569 := n7_
    have HB := n8_
    clear n0_ n1_ n2_ n3_ n4_ n5_ n6_ n7_ n8_
    (try clear hb)
    (try clear hb2)
    (try clear hk)
    (try clear hi)
    (try clear ho0)
    obtain ⟨Ao40, co40, eo40⟩ := Kd.R_slice HO572.out
    (first | subst eo40 | (injection eo40 with f1_ f2_ f3_; have f4_ := f1_.symm; have f5_ := f3_.symm; clear f1_ f2_ f3_; subst f4_; subst f5_))
    refine hK.out _ _ ⟨(blk_cell BK562.out 0).trans rfl, (blk_cell BK562.out 1).trans rfl, (blk_cell BK562.out 2).trans rfl, (blk_cell BK569.out 0).trans rfl, (blk_cell BK569.out 1).trans rfl, (blk_cell BK569.out 2).trans rfl⟩ (fun hHeld => ?_)
    clear hK K
    refine norm_ (a' := ?_) ?_ ?_
    rotate_left
    ·show Act.put _ (some 36) _ = _
     simp only [Act.put, List.setIfInBounds_toArray, List.set_cons_zero, List.set_cons_succ, i64_w, i32_w]
     rfl
    refine one_ (i := 15) (N := some 42) #[true, true, true, true, true, true, true, true, true, true, true, true, true, true, true, true, false, false, false, false] rfl rfl (one_of HT_.out (by kernel_rfl)) (by decide) (fun K hK => ?_)
    refine goes_ Try.func59 (by kernel_rfl) rfl #[.bool (t556 != t563), .slice Ao40 t570.length co40, .int .i64 (wrap64 (t560 + t567))] (by rfl) rfl rfl (by (try simp only [List.map_toArray, List.map_cons, List.map_nil]); first | done | rfl | (simp only [List.length_drop, List.length_take]; rfl)) ?_
    with_reducible refine (steelyardref03_told.calls kj4 (t556 != t563) _ _ t570 (wrap64 (t560 + t567)) t573 t574 t577 t578 _ ?side1 ?side2 A37.out).mono ?_
    (case side1 => repeat (first | exact (Kd.R_reads' HO572.out).2.2 | (with_reducible first | apply cA | apply cN | apply cD)))
    (case side2 => exact (Kd.R_reads' HO572.out).2.1)
    rintro e w41 ⟨v575, rfl, ho0, hb⟩
    refine ⟨_, rfl, ?_⟩
    have n0_ := Aside0.mk (Kd.R_elder' (by (with_reducible repeat (first | apply rA | apply rN | apply rD)); exact HO_563001.out) (Kd.R_base ho0) hb)
    have n1_ := Aside0.mk (Kd.R_elder' (by (with_reducible repeat (first | apply rA | apply rN | apply rD)); exact HO_570001.out) (Kd.R_base ho0) hb)
    have n2_ := Aside0.mk (Kd.R_elder' (by (with_reducible repeat (first | apply rA | apply rN | apply rD)); exact HO572.out) (Kd.R_base ho0) hb)
    have n3_ := Aside0.mk (Kd.R_lower (Kd.R_new' (Kd.R_new' (Kd.R_new' ho0 (Kd.R_lt (by (with_reducible repeat (first | apply rA | apply rN | apply rD)); exact HO_563001.out))) (Kd.R_lt (by (with_reducible repeat (first | apply rA | apply rN | apply rD)); exact HO_570001.out))) (Kd.R_lt (by (with_reducible repeat (first | apply rA | apply rN | apply rD)); exact HO572.out))) (below_size (bl_ HB)))
    have n4_ := kb_ BK553 hb
    have n5_ := kb_ BK554 hb
    have n6_ := kb_ BK555 hb
    have n7_ := kb_ BK562 hb
    have n8_ := kb_ BK569 hb
    have n9_ := bs_ HB hb
    clear HO_563001
    clear HO_570001
    clear HO572
    clear BK553
    clear BK554
    clear BK555
    clear BK562
    clear BK569
    clear HB
    have HO_563001 := n0_
    have HO_570001 := n1_
    have HO572 := n2_
    have HO576 := n3_
    have BK553 := n4_
    have BK554 := n5_
    have BK555 := n6_
    have BK562 := n7_
    have BK569 := n8_
    have HB := n9_
    clear n0_ n1_ n2_ n3_ n4_ n5_ n6_ n7_ n8_ n9_
    (try clear hb)
    (try clear hb2)
    (try clear hk)
    (try clear hi)
    (try clear ho0)
    obtain ⟨Ao43, co43, eo43⟩ := Kd.R_slice HO576.out
    (first | subst eo43 | (injection eo43 with f1_ f2_ f3_; have f4_ := f1_.symm; have f5_ := f3_.symm; clear f1_ f2_ f3_; subst f4_; subst f5_))
    refine hK.out _ _ ⟨(blk_cell BK562.out 0).trans rfl, (blk_cell BK562.out 1).trans rfl, (blk_cell BK562.out 2).trans rfl, (blk_cell BK569.out 0).trans rfl, (blk_cell BK569.out 1).trans rfl, (blk_cell BK569.out 2).trans rfl⟩ (fun hHeld => ?_)
    clear hK K
    refine norm_ (a' := ?_) ?_ ?_
    rotate_left
    ·show Act.put _ (some 42) _ = _
     simp only [Act.put, List.setIfInBounds_toArray, List.set_cons_zero, List.set_cons_succ, i64_w, i32_w]
     rfl
    refine pure_ (i := 16) (N := some 43) (v := ?_) (a' := ?_) #[true, true, true, true, true, true, true, true, true, true, true, true, true, true, true, true, true, false, false, false] rfl rfl (any_of HT_.out (by kernel_rfl)) (fun _ _ _ h => h) (Or.inl ⟨by rfl, ?_⟩) ?_ ?_
    rotate_left
    ·intro w'
     go_simp
     with_reducible rfl
    rotate_left
    ·simp only [Act.put, List.setIfInBounds_toArray, List.set_cons_zero, List.set_cons_succ, i64_w, i32_w]
     rfl
    refine pure_ (i := 17) (N := some 44) (v := ?_) (a' := ?_) #[true, true, true, true, true, true, true, true, true, true, true, true, true, true, true, true, true, true, false, false] rfl rfl (any_of HT_.out (by kernel_rfl)) (fun _ _ _ h => h) (Or.inl ⟨by rfl, ?_⟩) ?_ ?_
    rotate_left
    ·intro w'
     go_simp
     with_reducible rfl
    rotate_left
    ·simp only [Act.put, List.setIfInBounds_toArray, List.set_cons_zero, List.set_cons_succ, i64_w, i32_w]
     rfl
    refine one_ (i := 18) (N := none) #[true, true, true, true, true, true, true, true, true, true, true, true, true, true, true, true, true, true, true, false] rfl rfl (one_of HT_.out (by kernel_rfl)) (by decide) (fun K hK => ?_)
    have hs42 : w41.cell? ⟨gb555, 0, none⟩ = some (.bool false) := (blk_cell BK555.out 0).trans rfl
    have hfs42 := blk_frozen BK555.out 0
    have hns42_0 := NB553_555.out
    have hns42_1 := NB554_555.out
    have hns42_3 := NB562_555.out
    have hns42_4 := NB569_555.out
    have hms42_0 := NB555_553.out
    have hms42_1 := NB555_554.out
    have hms42_3 := NB555_562.out
    have hms42_4 := NB555_569.out
    have hs44 : w41.cell? ⟨gb555, 1, none⟩ = some (.slice none 0 0) := (blk_cell BK555.out 1).trans rfl
    have hfs44 := blk_frozen BK555.out 1
    have hns44_0 := NB553_555.out
    have hns44_1 := NB554_555.out
    have hns44_3 := NB562_555.out
    have hns44_4 := NB569_555.out
    have hms44_0 := NB555_553.out
    have hms44_1 := NB555_554.out
    have hms44_3 := NB555_562.out
    have hms44_4 := NB555_569.out
    have hs45 : w41.cell? ⟨gb555, 2, none⟩ = some (.int .i64 0) := (blk_cell BK555.out 2).trans rfl
    have hfs45 := blk_frozen BK555.out 2
    have hns45_0 := NB553_555.out
    have hns45_1 := NB554_555.out
    have hns45_3 := NB562_555.out
    have hns45_4 := NB569_555.out
    have hms45_0 := NB555_553.out
    have hms45_1 := NB555_554.out
    have hms45_3 := NB555_562.out
    have hms45_4 := NB555_569.out
    refine skip_ (w1 := ?_) (by rfl) rfl ?_ ?_
    rotate_left
    ·go_simp
     rfl
    refine hK.out _ _ ⟨((cell_far (p := ⟨gb555, _, none⟩) NB562_555.out _).trans (((cell_far (p := ⟨gb555, _, none⟩) NB562_555.out _).trans (((cell_far (p := ⟨gb555, _, none⟩) NB562_555.out _).trans (hHeld.1)))))), ((cell_far (p := ⟨gb555, _, none⟩) NB562_555.out _).trans (((cell_far (p := ⟨gb555, _, none⟩) NB562_555.out _).trans (((cell_far (p := ⟨gb555, _, none⟩) NB562_555.out _).trans (hHeld.2.1)))))), ((cell_far (p := ⟨gb555, _, none⟩) NB562_555.out _).trans (((cell_far (p := ⟨gb555, _, none⟩) NB562_555.out _).trans (((cell_far (p := ⟨gb555, _, none⟩) NB562_555.out _).trans (hHeld.2.2.1)))))), ((cell_far (p := ⟨gb555, _, none⟩) NB569_555.out _).trans (((cell_far (p := ⟨gb555, _, none⟩) NB569_555.out _).trans (((cell_far (p := ⟨gb555, _, none⟩) NB569_555.out _).trans (hHeld.2.2.2.1)))))), ((cell_far (p := ⟨gb555, _, none⟩) NB569_555.out _).trans (((cell_far (p := ⟨gb555, _, none⟩) NB569_555.out _).trans (((cell_far (p := ⟨gb555, _, none⟩) NB569_555.out _).trans (hHeld.2.2.2.2.1)))))), ((cell_far (p := ⟨gb555, _, none⟩) NB569_555.out _).trans (((cell_far (p := ⟨gb555, _, none⟩) NB569_555.out _).trans (((cell_far (p := ⟨gb555, _, none⟩) NB569_555.out _).trans (hHeld.2.2.2.2.2))))))⟩ (fun hHeld => ?_)
    clear hK K
    refine pure_ (i := 19) (N := some 5) (v := ?_) (a' := ?_) #[true, true, true, true, true, true, true, true, true, true, true, true, true, true, true, true, true, true, true, true] rfl rfl (any_of HT_.out (by kernel_rfl)) (fun _ _ _ h => h) (Or.inl ⟨by rfl, ?_⟩) ?_ ?_
    rotate_left
    ·intro w'
     go_simp
     with_reducible rfl
    rotate_left
    ·simp only [Act.put, List.setIfInBounds_toArray, List.set_cons_zero, List.set_cons_succ, i64_w, i32_w]
     rfl
    refine done_ (done_of HT_.out (by kernel_rfl)) ?_
    try go_wp2
    refine bodyPost_ret (results_ct rfl _ _ gb555 43 #[.bool t573, .slice Ao43 t574.length co43, .int .i64 t577] (0, 0) _ rfl (by (with_reducible repeat (first | apply bN | apply bD | apply bA)); refine blk_put (cs := #[.bool t573, .slice Ao43 t574.length co43, .int .i64 0]) ?_ 2 _ rfl; (with_reducible repeat (first | apply bN | apply bD | apply bA)); refine blk_put (cs := #[.bool t573, .slice none 0 0, .int .i64 0]) ?_ 1 _ rfl; (with_reducible repeat (first | apply bN | apply bD | apply bA)); refine blk_put (cs := #[.bool false, .slice none 0 0, .int .i64 0]) ?_ 0 _ rfl; (with_reducible repeat (first | apply bN | apply bD | apply bA)); exact BK555.out) Try.underlying43 rfl (by kernel_rfl)) rfl ?_
    exact ⟨_, by first | rfl | (simp [errW_none, errW_some] <;> rfl) | (simp [*, errW_none, errW_some] <;> rfl), by (with_reducible repeat (first | apply rA | apply rN | apply rD)); exact Kd.R_mono (Kd.R_far (p := ⟨gb555, 2, none⟩) (Kd.R_far (p := ⟨gb555, 1, none⟩) (Kd.R_far (p := ⟨gb555, 0, none⟩) (Kd.R_types HO576.out BK555.out (by decide)) (fun _ hk => hk.2) (.bool t573)) (fun _ hk => hk.2) (.slice Ao43 t574.length co43)) (fun _ hk => hk.2) (.int .i64 t577)) (fun _ hk => trivial), bl_ HB⟩

end Go.Proofs.Ytdemanikmaafeaa.Pr
