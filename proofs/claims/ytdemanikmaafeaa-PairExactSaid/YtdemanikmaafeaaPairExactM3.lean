import Derived.Test.YtdemanikmaafeaaPairExactM0
import Derived.Test.YtdemanikmaafeaaPairExactM1
import Derived.Test.YtdemanikmaafeaaPairExactM2
-- written by this session's own program (wip/fprint.py), which widens the kit's print by floats
namespace Go.Proofs.Ytdemanikmaafeaa.Pr
open Go.RowKit Go.Proofs.YtdemanikmaafeaaW.PrintWords Go.Proofs.YtdemanikmaafeaaW.PrintLast Go.Proofs.YtdemanikmaafeaaW.PrintMore
attribute [local go_sem] max2_int min2_int max_two min_two max_three min_three max_four min_four   -- for this text's walks alone
set_option linter.unusedVariables false
set_option linter.unusedSimpArgs false

/-! ### r03_Mul: function 36 -/
def r03_Mul.j0 : Nat → Bool → Bool → List Int → Int → Bool → List Int → Int → Option (Bool × List Int × Int × Int)
 | 0, _, _, _, _, _, _, _ => none
 | k + 1, x25, x563000, x563001, x563002, x570000, x570001, x570002 => if x25 = true then (some (false, ([] : List Int), 0, 2)) else ((r02_Times.f k x563001 x570001).bind fun t570 => ((r03_told.f k (x563000 != x570000) t570 (wrap64 (x563002 + x570002))).bind fun bt573 => (some (bt573.1, bt573.2.1, bt573.2.2.1, bt573.2.2.2))))
def r03_Mul.f (k : Nat) (a0_0 : Bool) (l0_1 : List Int) (a0_2 : Int) (a1_0 : Bool) (l1_1 : List Int) (a1_2 : Int) : Option (Bool × List Int × Int × Int) := (r03_Made.f k a0_0 l0_1 a0_2).bind fun bt556 => ((r03_Made.f k a1_0 l1_1 a1_2).bind fun bt563 => (if bt556.2.2.2 = true then (r03_Mul.j0 k (!bt563.2.2.2) bt556.1 bt556.2.1 bt556.2.2.1 bt563.1 bt563.2.1 bt563.2.2.1) else (r03_Mul.j0 k true bt556.1 bt556.2.1 bt556.2.2.1 bt563.1 bt563.2.1 bt563.2.2.1)))
theorem r03_Mul.mono_l : ∀ k, (∀ y0 y1 y2 y3 y4 y5 y6, LeO (r03_Mul.j0 k y0 y1 y2 y3 y4 y5 y6) (r03_Mul.j0 (k + 1) y0 y1 y2 y3 y4 y5 y6))
 | 0 => fun _ _ _ _ _ _ _ r h => by simp [r03_Mul.j0] at h
 | k + 1 => by
  have ih0 := r03_Mul.mono_l k
  ·intro y0 y1 y2 y3 y4 y5 y6
   unfold r03_Mul.j0
   repeat' first
   | (with_reducible exact ih0 _ _ _ _ _ _ _)
   | (with_reducible exact r02_Times.mono _ _ _)
   | (with_reducible exact r03_Made.mono _ _ _ _)
   | (with_reducible exact r03_told.mono _ _ _ _)
   | (with_reducible exact LeO.refl _)
   | (with_reducible exact LeO.none _)
   | (with_reducible refine LeO.ite ?_ ?_)
   | (with_reducible refine LeO.bind ?_ (fun _ => ?_))
   | exact ih0 _ _ _ _ _ _ _
   | exact r02_Times.mono _ _ _
   | exact r03_Made.mono _ _ _ _
   | exact r03_told.mono _ _ _ _
   | exact LeO.none _
   | refine LeO.ite ?_ ?_
   | refine LeO.bind ?_ (fun _ => ?_)
theorem r03_Mul.mono : ∀ a0 a1 a2 a3 a4 a5 k, LeO (r03_Mul.f k a0 a1 a2 a3 a4 a5) (r03_Mul.f (k + 1) a0 a1 a2 a3 a4 a5) := by
 intro a0 a1 a2 a3 a4 a5 k
 have ih0 := r03_Mul.mono_l k
 unfold r03_Mul.f
 repeat' first
   | (with_reducible exact ih0 _ _ _ _ _ _ _)
   | (with_reducible exact r02_Times.mono _ _ _)
   | (with_reducible exact r03_Made.mono _ _ _ _)
   | (with_reducible exact r03_told.mono _ _ _ _)
   | (with_reducible exact LeO.refl _)
   | (with_reducible exact LeO.none _)
   | (with_reducible refine LeO.ite ?_ ?_)
   | (with_reducible refine LeO.bind ?_ (fun _ => ?_))
   | exact ih0 _ _ _ _ _ _ _
   | exact r02_Times.mono _ _ _
   | exact r03_Made.mono _ _ _ _
   | exact r03_told.mono _ _ _ _
   | exact LeO.none _
   | refine LeO.ite ?_ ?_
   | refine LeO.bind ?_ (fun _ => ?_)
def r03_Mul.T5 : Bool × List (List Nat × List Nat) := (true, [([], []), ([0], [0]), ([], []), ([2], [2]), ([1, 3], [1, 3]), ([], []), ([5], [5]), ([], []), ([7], [7]), ([6, 8], [6, 8]), ([], []), ([10], [10]), ([], []), ([12], [12]), ([11, 13], [11, 13]), ([4, 9, 14, 9], [4, 9, 14]), ([15], [15]), ([15], [15]), ([16, 15, 0, 1, 2, 3, 4, 5, 6, 7, 8, 9, 10, 11, 12, 13, 14, 15, 16, 17], [16]), ([17, 18, 0, 1, 2, 3, 4, 5, 6, 7, 8, 9, 10, 11, 12, 13, 14, 15, 16, 17, 18], [17])])
def r03_Mul.B5 : List Nat := [0, 1, 0, 4, 15, 0, 32, 0, 128, 480, 0, 1024, 0, 4096, 15360, 32767, 65535, 65535, 262143, 524287]
theorem r03_Mul.tab5 : rtab .any (opsOf Try.f36 5) = r03_Mul.T5 := by kernel_rfl
theorem r03_Mul.bits5 : waitsOk r03_Mul.T5.2 r03_Mul.B5 = true := by kernel_rfl
set_option maxHeartbeats 3000000 in
set_option maxRecDepth 100000 in
theorem r03_Mul.calls (k : Nat) (a0_0 : Bool) (A0_1 : Option Addr) (c0_1 : Nat) (l0_1 : List Int) (a0_2 : Int) (a1_0 : Bool) (A1_1 : Option Addr) (c1_1 : Nat) (l1_1 : List Int) (a1_2 : Int) (r1 : Bool) (r2 : List Int) (r3 : Int) (r4 : Int) (w : World) (hr0_1 : Kd.C (Kd.int .u32) w A0_1 l0_1.length l0_1) (hc0_1 : l0_1.length ≤ c0_1) (hr1_1 : Kd.C (Kd.int .u32) w A1_1 l1_1.length l1_1) (hc1_1 : l1_1.length ≤ c1_1) (h : r03_Mul.f k a0_0 l0_1 a0_2 a1_0 l1_1 a1_2 = some (r1, r2, r3, r4)) :
  Calls Try.prog 36 #[.agg #[.bool a0_0, .slice A0_1 l0_1.length c0_1, .int .i64 a0_2], .agg #[.bool a1_0, .slice A1_1 l1_1.length c1_1, .int .i64 a1_2]] w fun e w' => ∃ v1_ : Value, e = .returned (.tuple #[.agg #[.bool r1, v1_, .int .i64 r3], .int .i64 r4]) ∧ Kd.R (Kd.int .u32) 72 w' w.heap.size (fun _ => True) v1_ r2 ∧ Below w.heap.size w w' := by
 have hu43 := Try.underlying43
 have HR0_1 := Aside0.mk hr0_1
 have HC0_1 := Aside0.mk hc0_1
 clear hr0_1 hc0_1
 have HR1_1 := Aside0.mk hr1_1
 have HC1_1 := Aside0.mk hc1_1
 clear hr1_1 hc1_1
 have HB := Aside0.mk (Below.refl w.heap.size w)
 have H : ((r03_Made.f k a0_0 l0_1 a0_2).bind fun bt556 => ((r03_Made.f k a1_0 l1_1 a1_2).bind fun bt563 => (if bt556.2.2.2 = true then (r03_Mul.j0 k (!bt563.2.2.2) bt556.1 bt556.2.1 bt556.2.2.1 bt563.1 bt563.2.1 bt563.2.2.1) else (r03_Mul.j0 k true bt556.1 bt556.2.1 bt556.2.2.1 bt563.1 bt563.2.1 bt563.2.2.1)))) = some (r1, r2, r3, r4) := h
 clear h
 obtain ⟨⟨t556, t557, t560, t561⟩, A3, H⟩ := ob_ H
 try dsimp only at H
 obtain ⟨⟨t563, t564, t567, t568⟩, A4, H⟩ := ob_ H
 try dsimp only at H
 have HC5 := Aside0.mk H
 clear H
 go_enter Try.func36, Try.ntmps36
 go_upto_region 3 with (first | ((with_reducible refine gate_dst (N := 2) rfl ?_); refine box_event ?hg (N := 2) ?hd (cs := #[.bool a0_0, .slice A0_1 l0_1.length c0_1, .int .i64 a0_2]) (t := 43) ?hr ?_; (case hd => rfl); (case hg => rfl); (case hr => first | (go_simp; done) | (go_simp; rfl)); intro gb553 hg w6 hbox hb; have n0_ := bs_ HB hb; have n1_ := Aside0.mk (hbox); have n2_ := ge_ HB hg; have n3_ := ge_ HB hg; clear HB; have HB := n0_; have BK553 := n1_; have GW553 := n2_; have GE553 := n3_; clear n0_ n1_ n2_ n3_; clear hb hbox hg) | ((with_reducible refine gate_dst (N := 3) rfl ?_); refine box_event ?hg (N := 3) ?hd (cs := #[.bool a1_0, .slice A1_1 l1_1.length c1_1, .int .i64 a1_2]) (t := 43) ?hr ?_; (case hd => rfl); (case hg => rfl); (case hr => first | (go_simp; done) | (go_simp; rfl)); intro gb554 hg w7 hbox hb; have n0_ := kb_ BK553 hb; have n1_ := bs_ HB hb; have n2_ := Aside0.mk (hbox); have n3_ := ge_ HB hg; have n4_ := ge_ HB hg; have n5_ := nlt_ BK553 hg; have n6_ := ngt_ BK553 hg; clear BK553; clear HB; have BK553 := n0_; have HB := n1_; have BK554 := n2_; have GW554 := n3_; have GE554 := n4_; have NB553_554 := n5_; have NB554_553 := n6_; clear n0_ n1_ n2_ n3_ n4_ n5_ n6_; clear hb hbox hg) | ((with_reducible refine gate_dst (N := 4) rfl ?_); refine box_event ?hg (N := 4) ?hd (cs := #[.bool false, .slice none 0 0, .int .i64 0]) (t := 43) ?hr ?_; (case hd => rfl); (case hg => rfl); (case hr => first | (go_simp; done) | (go_simp; rfl)); intro gb555 hg w8 hbox hb; have n0_ := kb_ BK553 hb; have n1_ := kb_ BK554 hb; have n2_ := bs_ HB hb; have n3_ := Aside0.mk (hbox); have n4_ := ge_ HB hg; have n5_ := ge_ HB hg; have n6_ := nlt_ BK553 hg; have n7_ := ngt_ BK553 hg; have n8_ := nlt_ BK554 hg; have n9_ := ngt_ BK554 hg; clear BK553; clear BK554; clear HB; have BK553 := n0_; have BK554 := n1_; have HB := n2_; have BK555 := n3_; have GW555 := n4_; have GE555 := n5_; have NB553_555 := n6_; have NB555_553 := n7_; have NB554_555 := n8_; have NB555_554 := n9_; clear n0_ n1_ n2_ n3_ n4_ n5_ n6_ n7_ n8_ n9_; clear hb hbox hg; have hnb9 := NB553_554.out; have hnc9 := NB554_553.out; have hnb10 := NB553_555.out; have hnc10 := NB555_553.out; have hcz11_0 : w8.cell? ⟨gb553, 0, none⟩ = some (.bool a0_0) := (blk_cell BK553.out 0).trans rfl; have hcz11_1 : w8.cell? ⟨gb553, 1, none⟩ = some (.slice A0_1 l0_1.length c0_1) := (blk_cell BK553.out 1).trans rfl; have hcz11_2 : w8.cell? ⟨gb553, 2, none⟩ = some (.int .i64 a0_2) := (blk_cell BK553.out 2).trans rfl; have hfz11_0 := blk_frozen BK553.out 0; have hfz11_1 := blk_frozen BK553.out 1; have hfz11_2 := blk_frozen BK553.out 2) | ((with_reducible refine gate_callee (f := 57) rfl ?_); refine goesM (some 12) Try.func57 #[.agg #[.bool a0_0, .slice A0_1 l0_1.length c0_1, .int .i64 a0_2]] ?_; (with_reducible refine (r03_Made.calls k a0_0 _ _ l0_1 a0_2 t556 t557 t560 t561 _ ?side1 ?side2 A3.out).mono ?_); (case side1 => repeat (first | exact (Kd.C_below HR0_1.out HB.out) | (with_reducible first | apply cA | apply cN | apply cD))); (case side2 => exact HC0_1.out); rintro e w12 ⟨v558, rfl, ho0, hb⟩; refine ⟨_, rfl, ?_⟩; have n0_ := Aside0.mk (Kd.R_lower ho0 (below_size (bl_ HB))); have n1_ := kb_ BK553 hb; have n2_ := kb_ BK554 hb; have n3_ := kb_ BK555 hb; have n4_ := bs_ HB hb; clear BK553; clear BK554; clear BK555; clear HB; have HO559 := n0_; have BK553 := n1_; have BK554 := n2_; have BK555 := n3_; have HB := n4_; clear n0_ n1_ n2_ n3_ n4_; (try clear hb); (try clear hb2); (try clear hk); (try clear hi); (try clear ho0)) | ((with_reducible refine gate_dst (N := 6) rfl ?_); refine box_event ?hg (N := 6) ?hd (cs := #[.bool false, .slice none 0 0, .int .i64 0]) (t := 43) ?hr ?_; (case hd => rfl); (case hg => rfl); (case hr => first | (go_simp; done) | (go_simp; rfl)); intro gb562 hg w13 hbox hb; have n0_ := Aside0.mk (Kd.R_below (rr_ HO559) hb); have n1_ := kb_ BK553 hb; have n2_ := kb_ BK554 hb; have n3_ := kb_ BK555 hb; have n4_ := bs_ HB hb; have n5_ := Aside0.mk (hbox); have n6_ := ge_ HB hg; have n7_ := ge_ HB hg; have n8_ := nlt_ BK553 hg; have n9_ := ngt_ BK553 hg; have n10_ := nlt_ BK554 hg; have n11_ := ngt_ BK554 hg; have n12_ := nlt_ BK555 hg; have n13_ := ngt_ BK555 hg; clear HO559; clear BK553; clear BK554; clear BK555; clear HB; have HO559 := n0_; have BK553 := n1_; have BK554 := n2_; have BK555 := n3_; have HB := n4_; have BK562 := n5_; have GW562 := n6_; have GE562 := n7_; have NB553_562 := n8_; have NB562_553 := n9_; have NB554_562 := n10_; have NB562_554 := n11_; have NB555_562 := n12_; have NB562_555 := n13_; clear n0_ n1_ n2_ n3_ n4_ n5_ n6_ n7_ n8_ n9_ n10_ n11_ n12_ n13_; clear hb hbox hg; have hnb14 := NB562_553.out; have hnc14 := NB553_562.out; have hnb15 := NB562_554.out; have hnc15 := NB554_562.out; have hnb16 := NB562_555.out; have hnc16 := NB555_562.out; have hcz17_0 : w13.cell? ⟨gb562, 0, none⟩ = some (.bool false) := (blk_cell BK562.out 0).trans rfl; have hcz17_1 : w13.cell? ⟨gb562, 1, none⟩ = some (.slice none 0 0) := (blk_cell BK562.out 1).trans rfl; have hcz17_2 : w13.cell? ⟨gb562, 2, none⟩ = some (.int .i64 0) := (blk_cell BK562.out 2).trans rfl; have hfz17_0 := blk_frozen BK562.out 0; have hfz17_1 := blk_frozen BK562.out 1; have hfz17_2 := blk_frozen BK562.out 2; obtain ⟨Ao18, co18, eo18⟩ := Kd.R_slice HO559.out; subst eo18; have hnb19 := NB554_555.out; have hnc19 := NB555_554.out; have hcz20_0 : w13.cell? ⟨gb554, 0, none⟩ = some (.bool a1_0) := (blk_cell BK554.out 0).trans rfl; have hcz20_1 : w13.cell? ⟨gb554, 1, none⟩ = some (.slice A1_1 l1_1.length c1_1) := (blk_cell BK554.out 1).trans rfl; have hcz20_2 : w13.cell? ⟨gb554, 2, none⟩ = some (.int .i64 a1_2) := (blk_cell BK554.out 2).trans rfl; have hfz20_0 := blk_frozen BK554.out 0; have hfz20_1 := blk_frozen BK554.out 1; have hfz20_2 := blk_frozen BK554.out 2) | ((with_reducible refine gate_callee (f := 57) rfl ?_); refine goesM (some 17) Try.func57 #[.agg #[.bool a1_0, .slice A1_1 l1_1.length c1_1, .int .i64 a1_2]] ?_; (with_reducible refine (r03_Made.calls k a1_0 _ _ l1_1 a1_2 t563 t564 t567 t568 _ ?side1 ?side2 A4.out).mono ?_); (case side1 => exact Kd.C_below HR1_1.out (bl_ HB)); (case side2 => exact HC1_1.out); rintro e w21 ⟨v565, rfl, ho0, hb⟩; refine ⟨_, rfl, ?_⟩; have n0_ := Aside0.mk (Kd.R_elder' (by (with_reducible repeat (first | apply rA | apply rN | apply rD)); exact (Kd.R_mono (Kd.R_far (p := ⟨gb562, 2, none⟩) (Kd.R_far (p := ⟨gb562, 1, none⟩) (Kd.R_far (p := ⟨gb562, 0, none⟩) (Kd.R_types HO559.out BK562.out (by decide)) (fun _ hk => hk.2) (.bool t556)) (fun _ hk => hk.2) (.slice Ao18 t557.length co18)) (fun _ hk => hk.2) (.int .i64 t560)) (fun _ h_ => h_.1))) (Kd.R_base ho0) hb); have n1_ := Aside0.mk (Kd.R_lower (Kd.R_new' ho0 (Kd.R_lt (by (with_reducible repeat (first | apply rA | apply rN | apply rD)); exact (Kd.R_mono (Kd.R_far (p := ⟨gb562, 2, none⟩) (Kd.R_far (p := ⟨gb562, 1, none⟩) (Kd.R_far (p := ⟨gb562, 0, none⟩) (Kd.R_types HO559.out BK562.out (by decide)) (fun _ hk => hk.2) (.bool t556)) (fun _ hk => hk.2) (.slice Ao18 t557.length co18)) (fun _ hk => hk.2) (.int .i64 t560)) (fun _ h_ => h_.1))))) (below_size (bl_ HB))); have n2_ := Aside0.mk (blk_below (g := gb553) (o := .cells #[.bool a0_0, .slice A0_1 l0_1.length c0_1, .int .i64 a0_2] 43 (0, 0)) (by (with_reducible repeat (first | apply bN | apply bD | apply bA)); refine blk_far ?_ NB553_562.out _; (with_reducible repeat (first | apply bN | apply bD | apply bA)); refine blk_far ?_ NB553_562.out _; (with_reducible repeat (first | apply bN | apply bD | apply bA)); refine blk_far ?_ NB553_562.out _; exact bk_ BK553) hb); have n3_ := Aside0.mk (blk_below (g := gb554) (o := .cells #[.bool a1_0, .slice A1_1 l1_1.length c1_1, .int .i64 a1_2] 43 (0, 0)) (by (with_reducible repeat (first | apply bN | apply bD | apply bA)); refine blk_far ?_ NB554_562.out _; (with_reducible repeat (first | apply bN | apply bD | apply bA)); refine blk_far ?_ NB554_562.out _; (with_reducible repeat (first | apply bN | apply bD | apply bA)); refine blk_far ?_ NB554_562.out _; exact bk_ BK554) hb); have n4_ := Aside0.mk (blk_below (g := gb555) (o := .cells #[.bool false, .slice none 0 0, .int .i64 0] 43 (0, 0)) (by (with_reducible repeat (first | apply bN | apply bD | apply bA)); refine blk_far ?_ NB555_562.out _; (with_reducible repeat (first | apply bN | apply bD | apply bA)); refine blk_far ?_ NB555_562.out _; (with_reducible repeat (first | apply bN | apply bD | apply bA)); refine blk_far ?_ NB555_562.out _; exact bk_ BK555) hb); have n5_ := Aside0.mk (blk_below (g := gb562) (o := .cells #[.bool t556, .slice Ao18 t557.length co18, .int .i64 t560] 43 (0, 0)) (by (with_reducible repeat (first | apply bN | apply bD | apply bA)); refine blk_put (cs := #[.bool t556, .slice Ao18 t557.length co18, .int .i64 0]) ?_ 2 _ rfl; (with_reducible repeat (first | apply bN | apply bD | apply bA)); refine blk_put (cs := #[.bool t556, .slice none 0 0, .int .i64 0]) ?_ 1 _ rfl; (with_reducible repeat (first | apply bN | apply bD | apply bA)); refine blk_put (cs := #[.bool false, .slice none 0 0, .int .i64 0]) ?_ 0 _ rfl; exact bk_ BK562) hb); have n6_ := bs_ HB hb; clear HO559; clear BK553; clear BK554; clear BK555; clear BK562; clear HB; have HO559 := n0_; have HO566 := n1_; have BK553 := n2_; have BK554 := n3_; have BK555 := n4_; have BK562 := n5_; have HB := n6_; clear n0_ n1_ n2_ n3_ n4_ n5_ n6_; (try clear hb); (try clear hb2); (try clear hk); (try clear hi); (try clear ho0)) | ((with_reducible refine gate_dst (N := 8) rfl ?_); refine box_event ?hg (N := 8) ?hd (cs := #[.bool false, .slice none 0 0, .int .i64 0]) (t := 43) ?hr ?_; (case hd => rfl); (case hg => rfl); (case hr => first | (go_simp; done) | (go_simp; rfl)); intro gb569 hg w22 hbox hb; have n0_ := Aside0.mk (Kd.R_below (rr_ HO559) hb); have n1_ := Aside0.mk (Kd.R_below (rr_ HO566) hb); have n2_ := kb_ BK553 hb; have n3_ := kb_ BK554 hb; have n4_ := kb_ BK555 hb; have n5_ := kb_ BK562 hb; have n6_ := bs_ HB hb; have n7_ := Aside0.mk (hbox); have n8_ := ge_ HB hg; have n9_ := ge_ HB hg; have n10_ := nlt_ BK553 hg; have n11_ := ngt_ BK553 hg; have n12_ := nlt_ BK554 hg; have n13_ := ngt_ BK554 hg; have n14_ := nlt_ BK555 hg; have n15_ := ngt_ BK555 hg; have n16_ := nlt_ BK562 hg; have n17_ := ngt_ BK562 hg; clear HO559; clear HO566; clear BK553; clear BK554; clear BK555; clear BK562; clear HB; have HO559 := n0_; have HO566 := n1_; have BK553 := n2_; have BK554 := n3_; have BK555 := n4_; have BK562 := n5_; have HB := n6_; have BK569 := n7_; have GW569 := n8_; have GE569 := n9_; have NB553_569 := n10_; have NB569_553 := n11_; have NB554_569 := n12_; have NB569_554 := n13_; have NB555_569 := n14_; have NB569_555 := n15_; have NB562_569 := n16_; have NB569_562 := n17_; clear n0_ n1_ n2_ n3_ n4_ n5_ n6_ n7_ n8_ n9_ n10_ n11_ n12_ n13_ n14_ n15_ n16_ n17_; clear hb hbox hg; have hnb23 := NB569_553.out; have hnc23 := NB553_569.out; have hnb24 := NB569_554.out; have hnc24 := NB554_569.out; have hnb25 := NB569_555.out; have hnc25 := NB555_569.out; have hnb26 := NB569_562.out; have hnc26 := NB562_569.out; have hcz27_0 : w22.cell? ⟨gb569, 0, none⟩ = some (.bool false) := (blk_cell BK569.out 0).trans rfl; have hcz27_1 : w22.cell? ⟨gb569, 1, none⟩ = some (.slice none 0 0) := (blk_cell BK569.out 1).trans rfl; have hcz27_2 : w22.cell? ⟨gb569, 2, none⟩ = some (.int .i64 0) := (blk_cell BK569.out 2).trans rfl; have hfz27_0 := blk_frozen BK569.out 0; have hfz27_1 := blk_frozen BK569.out 1; have hfz27_2 := blk_frozen BK569.out 2; obtain ⟨Ao28, co28, eo28⟩ := Kd.R_slice HO566.out; subst eo28))
 (try simp only [Act.put, List.setIfInBounds_toArray, List.set_cons_zero, List.set_cons_succ])
 go_cut [25] (fun v25 wc => ∃ (kq : Nat) (x25_4 : Bool), v25 = .bool x25_4 ∧ Aside0 (r03_Mul.j0 kq x25_4 t556 t557 t560 t563 t564 t567 = some (r1, r2, r3, r4)) ∧ Aside0 (kq ≤ k) ∧ Aside0 (Kd.R (Kd.int .u32) 72 wc w.heap.size (fun k_ => some k_ ≠ ((.slice Ao28 t564.length co28) : Value).ownBlock) (.slice Ao18 t557.length co18) t557) ∧ Aside0 (Kd.R (Kd.int .u32) 72 wc w.heap.size (fun k_ => some k_ ≠ ((.slice Ao18 t557.length co18) : Value).ownBlock) (.slice Ao28 t564.length co28) t564) ∧ Aside0 (wc.heap[gb553]? = some (.cells #[.bool a0_0, (.slice A0_1 l0_1.length c0_1), .int .i64 a0_2] 43 (0, 0))) ∧ Aside0 (wc.heap[gb554]? = some (.cells #[.bool a1_0, (.slice A1_1 l1_1.length c1_1), .int .i64 a1_2] 43 (0, 0))) ∧ Aside0 (wc.heap[gb555]? = some (.cells #[.bool false, (.slice none 0 0), .int .i64 0] 43 (0, 0))) ∧ Aside0 (wc.heap[gb562]? = some (.cells #[.bool t556, (.slice Ao18 t557.length co18), .int .i64 t560] 43 (0, 0))) ∧ Aside0 (wc.heap[gb569]? = some (.cells #[.bool t563, (.slice Ao28 t564.length co28), .int .i64 t567] 43 (0, 0))) ∧ Aside0 (Below w.heap.size w wc))
 case first =>
  have H := HC5.out
  clear HC5
  by_cases c29 : t561 = true
  ·subst c29
   have H1 : (r03_Mul.j0 k (!t568) t556 t557 t560 t563 t564 t567) = some (r1, r2, r3, r4) := by rw [if_pos rfl] at H; exact H
   clear H
   have H := H1
   clear H1
   have H' := Aside0.mk H
   clear H
   go_wp2
   go_meet
   case rel => exact ⟨_, (!t568), (by first | rfl | (simp; done) | (simp [*]; done)), H', ⟨by first | omega | exact Nat.le_refl _⟩, ⟨by (with_reducible repeat (first | apply rA | apply rN | apply rD)); exact Kd.R_mono (Kd.R_far (p := ⟨gb569, 2, none⟩) (Kd.R_far (p := ⟨gb569, 1, none⟩) (Kd.R_far (p := ⟨gb569, 0, none⟩) (Kd.R_types HO559.out BK569.out (by decide)) (fun _ hk => hk.2) (.bool t563)) (fun _ hk => hk.2) (.slice Ao28 t564.length co28)) (fun _ hk => hk.2) (.int .i64 t567)) (fun _ hk => hk.1.2)⟩, ⟨by (with_reducible repeat (first | apply rA | apply rN | apply rD)); exact Kd.R_mono (Kd.R_far (p := ⟨gb569, 2, none⟩) (Kd.R_far (p := ⟨gb569, 1, none⟩) (Kd.R_far (p := ⟨gb569, 0, none⟩) (Kd.R_types HO566.out BK569.out (by decide)) (fun _ hk => hk.2) (.bool t563)) (fun _ hk => hk.2) (.slice Ao28 t564.length co28)) (fun _ hk => hk.2) (.int .i64 t567)) (fun _ hk => hk.1.2)⟩, ⟨by (with_reducible repeat (first | apply bN | apply bD | apply bA)); refine blk_far ?_ NB553_569.out _; (with_reducible repeat (first | apply bN | apply bD | apply bA)); refine blk_far ?_ NB553_569.out _; (with_reducible repeat (first | apply bN | apply bD | apply bA)); refine blk_far ?_ NB553_569.out _; exact bk_ BK553⟩, ⟨by (with_reducible repeat (first | apply bN | apply bD | apply bA)); refine blk_far ?_ NB554_569.out _; (with_reducible repeat (first | apply bN | apply bD | apply bA)); refine blk_far ?_ NB554_569.out _; (with_reducible repeat (first | apply bN | apply bD | apply bA)); refine blk_far ?_ NB554_569.out _; exact bk_ BK554⟩, ⟨by (with_reducible repeat (first | apply bN | apply bD | apply bA)); refine blk_far ?_ NB555_569.out _; (with_reducible repeat (first | apply bN | apply bD | apply bA)); refine blk_far ?_ NB555_569.out _; (with_reducible repeat (first | apply bN | apply bD | apply bA)); refine blk_far ?_ NB555_569.out _; exact bk_ BK555⟩, ⟨by (with_reducible repeat (first | apply bN | apply bD | apply bA)); refine blk_far ?_ NB562_569.out _; (with_reducible repeat (first | apply bN | apply bD | apply bA)); refine blk_far ?_ NB562_569.out _; (with_reducible repeat (first | apply bN | apply bD | apply bA)); refine blk_far ?_ NB562_569.out _; exact bk_ BK562⟩, ⟨by (with_reducible repeat (first | apply bN | apply bD | apply bA)); refine blk_put (cs := #[.bool t563, .slice Ao28 t564.length co28, .int .i64 0]) ?_ 2 _ rfl; (with_reducible repeat (first | apply bN | apply bD | apply bA)); refine blk_put (cs := #[.bool t563, .slice none 0 0, .int .i64 0]) ?_ 1 _ rfl; (with_reducible repeat (first | apply bN | apply bD | apply bA)); refine blk_put (cs := #[.bool false, .slice none 0 0, .int .i64 0]) ?_ 0 _ rfl; exact bk_ BK569⟩, ⟨bl_ HB⟩⟩
  ·replace c29 := Bool.eq_false_iff.mpr c29
   subst c29
   have H1 : (r03_Mul.j0 k true t556 t557 t560 t563 t564 t567) = some (r1, r2, r3, r4) := by rw [if_neg (show ¬ (false = true) by decide)] at H; exact H
   clear H
   have H := H1
   clear H1
   have H' := Aside0.mk H
   clear H
   go_wp2
   go_meet
   case rel => exact ⟨_, (true), (by first | rfl | (simp; done) | (simp [*]; done)), H', ⟨by first | omega | exact Nat.le_refl _⟩, ⟨by (with_reducible repeat (first | apply rA | apply rN | apply rD)); exact Kd.R_mono (Kd.R_far (p := ⟨gb569, 2, none⟩) (Kd.R_far (p := ⟨gb569, 1, none⟩) (Kd.R_far (p := ⟨gb569, 0, none⟩) (Kd.R_types HO559.out BK569.out (by decide)) (fun _ hk => hk.2) (.bool t563)) (fun _ hk => hk.2) (.slice Ao28 t564.length co28)) (fun _ hk => hk.2) (.int .i64 t567)) (fun _ hk => hk.1.2)⟩, ⟨by (with_reducible repeat (first | apply rA | apply rN | apply rD)); exact Kd.R_mono (Kd.R_far (p := ⟨gb569, 2, none⟩) (Kd.R_far (p := ⟨gb569, 1, none⟩) (Kd.R_far (p := ⟨gb569, 0, none⟩) (Kd.R_types HO566.out BK569.out (by decide)) (fun _ hk => hk.2) (.bool t563)) (fun _ hk => hk.2) (.slice Ao28 t564.length co28)) (fun _ hk => hk.2) (.int .i64 t567)) (fun _ hk => hk.1.2)⟩, ⟨by (with_reducible repeat (first | apply bN | apply bD | apply bA)); refine blk_far ?_ NB553_569.out _; (with_reducible repeat (first | apply bN | apply bD | apply bA)); refine blk_far ?_ NB553_569.out _; (with_reducible repeat (first | apply bN | apply bD | apply bA)); refine blk_far ?_ NB553_569.out _; exact bk_ BK553⟩, ⟨by (with_reducible repeat (first | apply bN | apply bD | apply bA)); refine blk_far ?_ NB554_569.out _; (with_reducible repeat (first | apply bN | apply bD | apply bA)); refine blk_far ?_ NB554_569.out _; (with_reducible repeat (first | apply bN | apply bD | apply bA)); refine blk_far ?_ NB554_569.out _; exact bk_ BK554⟩, ⟨by (with_reducible repeat (first | apply bN | apply bD | apply bA)); refine blk_far ?_ NB555_569.out _; (with_reducible repeat (first | apply bN | apply bD | apply bA)); refine blk_far ?_ NB555_569.out _; (with_reducible repeat (first | apply bN | apply bD | apply bA)); refine blk_far ?_ NB555_569.out _; exact bk_ BK555⟩, ⟨by (with_reducible repeat (first | apply bN | apply bD | apply bA)); refine blk_far ?_ NB562_569.out _; (with_reducible repeat (first | apply bN | apply bD | apply bA)); refine blk_far ?_ NB562_569.out _; (with_reducible repeat (first | apply bN | apply bD | apply bA)); refine blk_far ?_ NB562_569.out _; exact bk_ BK562⟩, ⟨by (with_reducible repeat (first | apply bN | apply bD | apply bA)); refine blk_put (cs := #[.bool t563, .slice Ao28 t564.length co28, .int .i64 0]) ?_ 2 _ rfl; (with_reducible repeat (first | apply bN | apply bD | apply bA)); refine blk_put (cs := #[.bool t563, .slice none 0 0, .int .i64 0]) ?_ 1 _ rfl; (with_reducible repeat (first | apply bN | apply bD | apply bA)); refine blk_put (cs := #[.bool false, .slice none 0 0, .int .i64 0]) ?_ 0 _ rfl; exact bk_ BK569⟩, ⟨bl_ HB⟩⟩
 case rest =>
  clear HC5
  try clear c1
  try clear c2
  try clear p2
  try clear c3
  try clear c5
  try clear c9
  try clear c10
  try clear c14
  try clear c15
  try clear c16
  try clear c19
  try clear c23
  try clear c24
  try clear c25
  try clear c26
  try clear c29
  try clear hcz11_0
  try clear hcz11_1
  try clear hcz11_2
  try clear hcz17_0
  try clear hcz17_1
  try clear hcz17_2
  try clear hcz20_0
  try clear hcz20_1
  try clear hcz20_2
  try clear hcz27_0
  try clear hcz27_1
  try clear hcz27_2
  try clear hfz11_0
  try clear hfz11_1
  try clear hfz11_2
  try clear hfz17_0
  try clear hfz17_1
  try clear hfz17_2
  try clear hfz20_0
  try clear hfz20_1
  try clear hfz20_2
  try clear hfz27_0
  try clear hfz27_1
  try clear hfz27_2
  obtain ⟨kq, x25_4, rfl, HA, HJ4, HO_563001, HO_570001, BK553, BK554, BK555, BK562, BK569, HB⟩ := hcut
  cases kq with
  | zero => exact absurd HA.out (by simp [r03_Mul.j0])
  | succ kj4 =>
   have H := HA.out
   clear HA
   simp only [r03_Mul.j0] at H
   by_cases c30 : x25_4 = true
   ·subst c30
    have H1 : (some (false, ([] : List Int), 0, 2)) = some (r1, r2, r3, r4) := by rw [if_pos rfl] at H; exact H
    clear H
    have H := H1
    clear H1
    simp only [Option.some.injEq, Prod.mk.injEq] at H
    obtain ⟨rfl, rfl, rfl, rfl⟩ := H
    have hnb31 := NB555_553.out
    have hnc31 := NB553_555.out
    have hnb32 := NB555_554.out
    have hnc32 := NB554_555.out
    have hnb33 := NB555_562.out
    have hnc33 := NB562_555.out
    have hnb34 := NB555_569.out
    have hnc34 := NB569_555.out
    have hcz35_0 : wc.cell? ⟨gb555, 0, none⟩ = some (.bool false) := (blk_cell BK555.out 0).trans rfl
    have hcz35_1 : wc.cell? ⟨gb555, 1, none⟩ = some (.slice none 0 0) := (blk_cell BK555.out 1).trans rfl
    have hcz35_2 : wc.cell? ⟨gb555, 2, none⟩ = some (.int .i64 0) := (blk_cell BK555.out 2).trans rfl
    have hfz35_0 := blk_frozen BK555.out 0
    have hfz35_1 := blk_frozen BK555.out 1
    have hfz35_2 := blk_frozen BK555.out 2
    go_wp2
    refine bodyPost_ret (results_ct rfl _ _ gb555 43 #[.bool false, .slice none 0 0, .int .i64 0] (0, 0) _ rfl (by (with_reducible repeat (first | apply bN | apply bD | apply bA)); refine blk_put (cs := #[.bool false, .slice none 0 0, .int .i64 0]) ?_ 2 _ rfl; (with_reducible repeat (first | apply bN | apply bD | apply bA)); refine blk_put (cs := #[.bool false, .slice none 0 0, .int .i64 0]) ?_ 1 _ rfl; (with_reducible repeat (first | apply bN | apply bD | apply bA)); refine blk_put (cs := #[.bool false, .slice none 0 0, .int .i64 0]) ?_ 0 _ rfl; exact bk_ BK555) Try.underlying43 rfl (by kernel_rfl)) rfl ?_
    exact ⟨_, by first | rfl | (simp [errW_none, errW_some] <;> rfl) | (simp [*, errW_none, errW_some] <;> rfl), by first | exact Kd.R_nil _ _ _ _ _ | exact Kd.N_nil _ _ _ _ _ | exact Kd.V_nil _ _ _ _ _ | exact Kd.Q_nil _ _ _ _ _ | exact Kd.S_nil _ _ _ _ _, bl_ HB⟩
   ·replace c30 := Bool.eq_false_iff.mpr c30
    subst c30
    have H1 : ((r02_Times.f kj4 t557 t564).bind fun t570 => ((r03_told.f kj4 (t556 != t563) t570 (wrap64 (t560 + t567))).bind fun bt573 => (some (bt573.1, bt573.2.1, bt573.2.2.1, bt573.2.2.2)))) = some (r1, r2, r3, r4) := by rw [if_neg (show ¬ (false = true) by decide)] at H; exact H
    clear H
    have H := H1
    clear H1
    obtain ⟨t570, A36, H⟩ := ob_ H
    try dsimp only at H
    obtain ⟨⟨t573, t574, t577, t578⟩, A37, H⟩ := ob_ H
    try dsimp only at H
    simp only [Option.some.injEq, Prod.mk.injEq] at H
    obtain ⟨rfl, rfl, rfl, rfl⟩ := H
    try go_wp2
    have n0_ := Aside0.mk (Kd.R_drew HO_563001.out)
    have n1_ := Aside0.mk (Kd.R_drew HO_570001.out)
    have n2_ := Aside0.mk (blk_drew BK553.out)
    have n3_ := Aside0.mk (blk_drew BK554.out)
    have n4_ := Aside0.mk (blk_drew BK555.out)
    have n5_ := Aside0.mk (blk_drew BK562.out)
    have n6_ := Aside0.mk (blk_drew BK569.out)
    have n7_ := Aside0.mk (below_drew1 HB.out)
    clear HO_563001
    clear HO_570001
    clear BK553
    clear BK554
    clear BK555
    clear BK562
    clear BK569
    clear HB
    have HO_563001 := n0_
    have HO_570001 := n1_
    have BK553 := n2_
    have BK554 := n3_
    have BK555 := n4_
    have BK562 := n5_
    have BK569 := n6_
    have HB := n7_
    clear n0_ n1_ n2_ n3_ n4_ n5_ n6_ n7_
    refine start_ (n := 20) (S := fun w' => w'.cell? ⟨gb562, 0, none⟩ = some (.bool t556) ∧ w'.cell? ⟨gb562, 1, none⟩ = some (.slice Ao18 t557.length co18) ∧ w'.cell? ⟨gb562, 2, none⟩ = some (.int .i64 t560) ∧ w'.cell? ⟨gb569, 0, none⟩ = some (.bool t563) ∧ w'.cell? ⟨gb569, 1, none⟩ = some (.slice Ao28 t564.length co28) ∧ w'.cell? ⟨gb569, 2, none⟩ = some (.int .i64 t567)) (ds := []) #[false, false, false, false, false, false, false, false, false, false, false, false, false, false, false, false, false, false, false, false] (by kernel_rfl) rfl rfl ⟨(blk_cell BK562.out 0).trans rfl, (blk_cell BK562.out 1).trans rfl, (blk_cell BK562.out 2).trans rfl, (blk_cell BK569.out 0).trans rfl, (blk_cell BK569.out 1).trans rfl, (blk_cell BK569.out 2).trans rfl⟩ (fun hHeld => ?_); refine with_tabW r03_Mul.tab5 r03_Mul.bits5 (fun HT_ HW_ => ?_)
    generalize wc.drew = w38 at HO_563001 HO_570001 BK553 BK554 BK555 BK562 BK569 HB hHeld ⊢
    refine pure_ (i := 0) (N := some 27) (v := ?_) (a' := ?_) #[true, false, false, false, false, false, false, false, false, false, false, false, false, false, false, false, false, false, false, false] rfl rfl (any_of HT_.out (by kernel_rfl)) (fun _ _ _ h => h) (Or.inl ⟨by rfl, ?_⟩) ?_ ?_
    rotate_left
    ·intro w'
     go_simp
     with_reducible rfl
    rotate_left
    ·simp only [Act.put, List.setIfInBounds_toArray, List.set_cons_zero, List.set_cons_succ, i64_w, i32_w]
     rfl
    refine pure_ (i := 2) (N := some 29) (v := ?_) (a' := ?_) #[true, false, true, false, false, false, false, false, false, false, false, false, false, false, false, false, false, false, false, false] rfl rfl (any_of HT_.out (by kernel_rfl)) (fun _ _ _ h => h) (Or.inl ⟨by rfl, ?_⟩) ?_ ?_
    rotate_left
    ·intro w'
     go_simp
     with_reducible rfl
    rotate_left
    ·simp only [Act.put, List.setIfInBounds_toArray, List.set_cons_zero, List.set_cons_succ, i64_w, i32_w]
     rfl
    refine pure_ (i := 5) (N := some 32) (v := ?_) (a' := ?_) #[true, false, true, false, false, true, false, false, false, false, false, false, false, false, false, false, false, false, false, false] rfl rfl (any_of HT_.out (by kernel_rfl)) (fun _ _ _ h => h) (Or.inl ⟨by rfl, ?_⟩) ?_ ?_
    rotate_left
    ·intro w'
     go_simp
     with_reducible rfl
    rotate_left
    ·simp only [Act.put, List.setIfInBounds_toArray, List.set_cons_zero, List.set_cons_succ, i64_w, i32_w]
     rfl
    refine pure_ (i := 7) (N := some 34) (v := ?_) (a' := ?_) #[true, false, true, false, false, true, false, true, false, false, false, false, false, false, false, false, false, false, false, false] rfl rfl (any_of HT_.out (by kernel_rfl)) (fun _ _ _ h => h) (Or.inl ⟨by rfl, ?_⟩) ?_ ?_
    rotate_left
    ·intro w'
     go_simp
     with_reducible rfl
    rotate_left
    ·simp only [Act.put, List.setIfInBounds_toArray, List.set_cons_zero, List.set_cons_succ, i64_w, i32_w]
     rfl
    refine pure_ (i := 10) (N := some 37) (v := ?_) (a' := ?_) #[true, false, true, false, false, true, false, true, false, false, true, false, false, false, false, false, false, false, false, false] rfl rfl (any_of HT_.out (by kernel_rfl)) (fun _ _ _ h => h) (Or.inl ⟨by rfl, ?_⟩) ?_ ?_
    rotate_left
    ·intro w'
     go_simp
     with_reducible rfl
    rotate_left
    ·simp only [Act.put, List.setIfInBounds_toArray, List.set_cons_zero, List.set_cons_succ, i64_w, i32_w]
     rfl
    refine pure_ (i := 12) (N := some 39) (v := ?_) (a' := ?_) #[true, false, true, false, false, true, false, true, false, false, true, false, true, false, false, false, false, false, false, false] rfl rfl (any_of HT_.out (by kernel_rfl)) (fun _ _ _ h => h) (Or.inl ⟨by rfl, ?_⟩) ?_ ?_
    rotate_left
    ·intro w'
     go_simp
     with_reducible rfl
    rotate_left
    ·simp only [Act.put, List.setIfInBounds_toArray, List.set_cons_zero, List.set_cons_succ, i64_w, i32_w]
     rfl
    refine take_ (i := 1) (N := some 28) (v := ?_) (a' := ?_) #[true, true, true, false, false, true, false, true, false, false, true, false, true, false, false, false, false, false, false, false] rfl rfl (take_ofW HT_.out HW_.out (by kernel_rfl)) (fun _ _ _ h => h) (Or.inl ⟨by rfl, ?_⟩) hHeld ?_ ?_
    rotate_left
    ·rintro w' ⟨s0, s1, s2, s3, s4, s5⟩
     go_simp
     with_reducible rfl
    rotate_left
    ·simp only [Act.put, List.setIfInBounds_toArray, List.set_cons_zero, List.set_cons_succ, i64_w, i32_w]
     rfl
    refine take_ (i := 3) (N := some 30) (v := ?_) (a' := ?_) #[true, true, true, true, false, true, false, true, false, false, true, false, true, false, false, false, false, false, false, false] rfl rfl (take_ofW HT_.out HW_.out (by kernel_rfl)) (fun _ _ _ h => h) (Or.inl ⟨by rfl, ?_⟩) hHeld ?_ ?_
    rotate_left
    ·rintro w' ⟨s0, s1, s2, s3, s4, s5⟩
     go_simp
     with_reducible rfl
    rotate_left
    ·simp only [Act.put, List.setIfInBounds_toArray, List.set_cons_zero, List.set_cons_succ, i64_w, i32_w]
     rfl
    refine pure_ (i := 4) (N := some 31) (v := ?_) (a' := ?_) #[true, true, true, true, true, true, false, true, false, false, true, false, true, false, false, false, false, false, false, false] rfl rfl (any_of HT_.out (by kernel_rfl)) (fun _ _ _ h => h) (Or.inl ⟨by rfl, ?_⟩) ?_ ?_
    rotate_left
    ·intro w'
     go_simp
     with_reducible rfl
    rotate_left
    ·simp only [Act.put, List.setIfInBounds_toArray, List.set_cons_zero, List.set_cons_succ, i64_w, i32_w]
     rfl
    refine take_ (i := 6) (N := some 33) (v := ?_) (a' := ?_) #[true, true, true, true, true, true, true, true, false, false, true, false, true, false, false, false, false, false, false, false] rfl rfl (take_ofW HT_.out HW_.out (by kernel_rfl)) (fun _ _ _ h => h) (Or.inl ⟨by rfl, ?_⟩) hHeld ?_ ?_
    rotate_left
    ·rintro w' ⟨s0, s1, s2, s3, s4, s5⟩
     go_simp
     with_reducible rfl
    rotate_left
    ·simp only [Act.put, List.setIfInBounds_toArray, List.set_cons_zero, List.set_cons_succ, i64_w, i32_w]
     rfl
    refine take_ (i := 8) (N := some 35) (v := ?_) (a' := ?_) #[true, true, true, true, true, true, true, true, true, false, true, false, true, false, false, false, false, false, false, false] rfl rfl (take_ofW HT_.out HW_.out (by kernel_rfl)) (fun _ _ _ h => h) (Or.inl ⟨by rfl, ?_⟩) hHeld ?_ ?_
    rotate_left
    ·rintro w' ⟨s0, s1, s2, s3, s4, s5⟩
     go_simp
     with_reducible rfl
    rotate_left
    ·simp only [Act.put, List.setIfInBounds_toArray, List.set_cons_zero, List.set_cons_succ, i64_w, i32_w]
     rfl
    refine take_ (i := 11) (N := some 38) (v := ?_) (a' := ?_) #[true, true, true, true, true, true, true, true, true, false, true, true, true, false, false, false, false, false, false, false] rfl rfl (take_ofW HT_.out HW_.out (by kernel_rfl)) (fun _ _ _ h => h) (Or.inl ⟨by rfl, ?_⟩) hHeld ?_ ?_
    rotate_left
    ·rintro w' ⟨s0, s1, s2, s3, s4, s5⟩
     go_simp
     with_reducible rfl
    rotate_left
    ·simp only [Act.put, List.setIfInBounds_toArray, List.set_cons_zero, List.set_cons_succ, i64_w, i32_w]
     rfl
    refine take_ (i := 13) (N := some 40) (v := ?_) (a' := ?_) #[true, true, true, true, true, true, true, true, true, false, true, true, true, true, false, false, false, false, false, false] rfl rfl (take_ofW HT_.out HW_.out (by kernel_rfl)) (fun _ _ _ h => h) (Or.inl ⟨by rfl, ?_⟩) hHeld ?_ ?_
    rotate_left
    ·rintro w' ⟨s0, s1, s2, s3, s4, s5⟩
     go_simp
     with_reducible rfl
    rotate_left
    ·simp only [Act.put, List.setIfInBounds_toArray, List.set_cons_zero, List.set_cons_succ, i64_w, i32_w]
     rfl
    refine pure_ (i := 14) (N := some 41) (v := ?_) (a' := ?_) #[true, true, true, true, true, true, true, true, true, false, true, true, true, true, true, false, false, false, false, false] rfl rfl (any_of HT_.out (by kernel_rfl)) (fun _ _ _ h => h) (Or.inl ⟨by rfl, ?_⟩) ?_ ?_
    rotate_left
    ·intro w'
     go_simp
     with_reducible rfl
    rotate_left
    ·simp only [Act.put, List.setIfInBounds_toArray, List.set_cons_zero, List.set_cons_succ, i64_w, i32_w]
     rfl
    refine one_ (i := 9) (N := some 36) #[true, true, true, true, true, true, true, true, true, true, true, true, true, true, true, false, false, false, false, false] rfl rfl (one_of HT_.out (by kernel_rfl)) (by decide) (fun K hK => ?_)
    refine goes_ Try.func63 (by kernel_rfl) rfl #[.slice Ao18 t557.length co18, .slice Ao28 t564.length co28] (by rfl) rfl rfl (by (try simp only [List.map_toArray, List.map_cons, List.map_nil]); first | done | rfl | (simp only [List.length_drop, List.length_take]; rfl)) ?_
    with_reducible refine (r02_Times.calls kj4 _ _ t557 _ _ t564 t570 _ ?side1 ?side2 ?side3 ?side4 A36.out).mono ?_
    (case side1 => repeat (first | exact (Kd.R_reads' HO_563001.out).2.2 | (with_reducible first | apply cA | apply cN | apply cD)))
    (case side2 => exact (Kd.R_reads' HO_563001.out).2.1)
    (case side3 => repeat (first | exact (Kd.R_reads' HO_570001.out).2.2 | (with_reducible first | apply cA | apply cN | apply cD)))
    (case side4 => exact (Kd.R_reads' HO_570001.out).2.1)
    rintro e w39 ⟨v571, rfl, ho0, hb⟩
    refine ⟨_, rfl, ?_⟩
    have n0_ := Aside0.mk (Kd.R_elder' (rr_ HO_563001) (Kd.R_base ho0) hb)
    have n1_ := Aside0.mk (Kd.R_elder' (rr_ HO_570001) (Kd.R_base ho0) hb)
    have n2_ := Aside0.mk (Kd.R_lower (Kd.R_new' (Kd.R_new' ho0 (Kd.R_lt (rr_ HO_563001))) (Kd.R_lt (rr_ HO_570001))) (below_size (bl_ HB)))
    have n3_ := kb_ BK553 hb
    have n4_ := kb_ BK554 hb
    have n5_ := kb_ BK555 hb
    have n6_ := kb_ BK562 hb
    have n7_ := kb_ BK569 hb
    have n8_ := bs_ HB hb
    clear HO_563001
    clear HO_570001
    clear BK553
    clear BK554
    clear BK555
    clear BK562
    clear BK569
    clear HB
    have HO_563001 := n0_
    have HO_570001 := n1_
    have HO572 := n2_
    have BK553 := n3_
    have BK554 := n4_
    have BK555 := n5_
    have BK562 := n6_
    have BK569 := n7_
    have HB := n8_
    clear n0_ n1_ n2_ n3_ n4_ n5_ n6_ n7_ n8_
    (try clear hb)
    (try clear hb2)
    (try clear hk)
    (try clear hi)
    (try clear ho0)
    obtain ⟨Ao40, co40, eo40⟩ := Kd.R_slice HO572.out
    (first | subst eo40 | (injection eo40 with f1_ f2_ f3_; have f4_ := f1_.symm; have f5_ := f3_.symm; clear f1_ f2_ f3_; subst f4_; subst f5_))
    refine hK.out _ _ ⟨(blk_cell BK562.out 0).trans rfl, (blk_cell BK562.out 1).trans rfl, (blk_cell BK562.out 2).trans rfl, (blk_cell BK569.out 0).trans rfl, (blk_cell BK569.out 1).trans rfl, (blk_cell BK569.out 2).trans rfl⟩ (fun hHeld => ?_)
    clear hK K
    refine norm_ (a' := ?_) ?_ ?_
    rotate_left
    ·show Act.put _ (some 36) _ = _
     simp only [Act.put, List.setIfInBounds_toArray, List.set_cons_zero, List.set_cons_succ, i64_w, i32_w]
     rfl
    refine one_ (i := 15) (N := some 42) #[true, true, true, true, true, true, true, true, true, true, true, true, true, true, true, true, false, false, false, false] rfl rfl (one_of HT_.out (by kernel_rfl)) (by decide) (fun K hK => ?_)
    refine goes_ Try.func59 (by kernel_rfl) rfl #[.bool (t556 != t563), .slice Ao40 t570.length co40, .int .i64 (wrap64 (t560 + t567))] (by rfl) rfl rfl (by (try simp only [List.map_toArray, List.map_cons, List.map_nil]); first | done | rfl | (simp only [List.length_drop, List.length_take]; rfl)) ?_
    with_reducible refine (r03_told.calls kj4 (t556 != t563) _ _ t570 (wrap64 (t560 + t567)) t573 t574 t577 t578 _ ?side1 ?side2 A37.out).mono ?_
    (case side1 => repeat (first | exact (Kd.R_reads' HO572.out).2.2 | (with_reducible first | apply cA | apply cN | apply cD)))
    (case side2 => exact (Kd.R_reads' HO572.out).2.1)
    rintro e w41 ⟨v575, rfl, ho0, hb⟩
    refine ⟨_, rfl, ?_⟩
    have n0_ := Aside0.mk (Kd.R_elder' (rr_ HO_563001) (Kd.R_base ho0) hb)
    have n1_ := Aside0.mk (Kd.R_elder' (rr_ HO_570001) (Kd.R_base ho0) hb)
    have n2_ := Aside0.mk (Kd.R_elder' (rr_ HO572) (Kd.R_base ho0) hb)
    have n3_ := Aside0.mk (Kd.R_lower (Kd.R_new' (Kd.R_new' (Kd.R_new' ho0 (Kd.R_lt (rr_ HO_563001))) (Kd.R_lt (rr_ HO_570001))) (Kd.R_lt (rr_ HO572))) (below_size (bl_ HB)))
    have n4_ := kb_ BK553 hb
    have n5_ := kb_ BK554 hb
    have n6_ := kb_ BK555 hb
    have n7_ := kb_ BK562 hb
    have n8_ := kb_ BK569 hb
    have n9_ := bs_ HB hb
    clear HO_563001
    clear HO_570001
    clear HO572
    clear BK553
    clear BK554
    clear BK555
    clear BK562
    clear BK569
    clear HB
    have HO_563001 := n0_
    have HO_570001 := n1_
    have HO572 := n2_
    have HO576 := n3_
    have BK553 := n4_
    have BK554 := n5_
    have BK555 := n6_
    have BK562 := n7_
    have BK569 := n8_
    have HB := n9_
    clear n0_ n1_ n2_ n3_ n4_ n5_ n6_ n7_ n8_ n9_
    (try clear hb)
    (try clear hb2)
    (try clear hk)
    (try clear hi)
    (try clear ho0)
    obtain ⟨Ao43, co43, eo43⟩ := Kd.R_slice HO576.out
    (first | subst eo43 | (injection eo43 with f1_ f2_ f3_; have f4_ := f1_.symm; have f5_ := f3_.symm; clear f1_ f2_ f3_; subst f4_; subst f5_))
    refine hK.out _ _ ⟨(blk_cell BK562.out 0).trans rfl, (blk_cell BK562.out 1).trans rfl, (blk_cell BK562.out 2).trans rfl, (blk_cell BK569.out 0).trans rfl, (blk_cell BK569.out 1).trans rfl, (blk_cell BK569.out 2).trans rfl⟩ (fun hHeld => ?_)
    clear hK K
    refine norm_ (a' := ?_) ?_ ?_
    rotate_left
    ·show Act.put _ (some 42) _ = _
     simp only [Act.put, List.setIfInBounds_toArray, List.set_cons_zero, List.set_cons_succ, i64_w, i32_w]
     rfl
    refine pure_ (i := 16) (N := some 43) (v := ?_) (a' := ?_) #[true, true, true, true, true, true, true, true, true, true, true, true, true, true, true, true, true, false, false, false] rfl rfl (any_of HT_.out (by kernel_rfl)) (fun _ _ _ h => h) (Or.inl ⟨by rfl, ?_⟩) ?_ ?_
    rotate_left
    ·intro w'
     go_simp
     with_reducible rfl
    rotate_left
    ·simp only [Act.put, List.setIfInBounds_toArray, List.set_cons_zero, List.set_cons_succ, i64_w, i32_w]
     rfl
    refine pure_ (i := 17) (N := some 44) (v := ?_) (a' := ?_) #[true, true, true, true, true, true, true, true, true, true, true, true, true, true, true, true, true, true, false, false] rfl rfl (any_of HT_.out (by kernel_rfl)) (fun _ _ _ h => h) (Or.inl ⟨by rfl, ?_⟩) ?_ ?_
    rotate_left
    ·intro w'
     go_simp
     with_reducible rfl
    rotate_left
    ·simp only [Act.put, List.setIfInBounds_toArray, List.set_cons_zero, List.set_cons_succ, i64_w, i32_w]
     rfl
    refine one_ (i := 18) (N := none) #[true, true, true, true, true, true, true, true, true, true, true, true, true, true, true, true, true, true, true, false] rfl rfl (one_of HT_.out (by kernel_rfl)) (by decide) (fun K hK => ?_)
    have hs42 : w41.cell? ⟨gb555, 0, none⟩ = some (.bool false) := (blk_cell BK555.out 0).trans rfl
    have hfs42 := blk_frozen BK555.out 0
    have hns42_0 := NB553_555.out
    have hns42_1 := NB554_555.out
    have hns42_3 := NB562_555.out
    have hns42_4 := NB569_555.out
    have hms42_0 := NB555_553.out
    have hms42_1 := NB555_554.out
    have hms42_3 := NB555_562.out
    have hms42_4 := NB555_569.out
    have hs44 : w41.cell? ⟨gb555, 1, none⟩ = some (.slice none 0 0) := (blk_cell BK555.out 1).trans rfl
    have hfs44 := blk_frozen BK555.out 1
    have hns44_0 := NB553_555.out
    have hns44_1 := NB554_555.out
    have hns44_3 := NB562_555.out
    have hns44_4 := NB569_555.out
    have hms44_0 := NB555_553.out
    have hms44_1 := NB555_554.out
    have hms44_3 := NB555_562.out
    have hms44_4 := NB555_569.out
    have hs45 : w41.cell? ⟨gb555, 2, none⟩ = some (.int .i64 0) := (blk_cell BK555.out 2).trans rfl
    have hfs45 := blk_frozen BK555.out 2
    have hns45_0 := NB553_555.out
    have hns45_1 := NB554_555.out
    have hns45_3 := NB562_555.out
    have hns45_4 := NB569_555.out
    have hms45_0 := NB555_553.out
    have hms45_1 := NB555_554.out
    have hms45_3 := NB555_562.out
    have hms45_4 := NB555_569.out
    refine skip_ (w1 := ?_) (by rfl) rfl ?_ ?_
    rotate_left
    ·go_simp
     rfl
    refine hK.out _ _ ⟨((cell_far (p := ⟨gb555, _, none⟩) NB562_555.out _).trans (((cell_far (p := ⟨gb555, _, none⟩) NB562_555.out _).trans (((cell_far (p := ⟨gb555, _, none⟩) NB562_555.out _).trans (hHeld.1)))))), ((cell_far (p := ⟨gb555, _, none⟩) NB562_555.out _).trans (((cell_far (p := ⟨gb555, _, none⟩) NB562_555.out _).trans (((cell_far (p := ⟨gb555, _, none⟩) NB562_555.out _).trans (hHeld.2.1)))))), ((cell_far (p := ⟨gb555, _, none⟩) NB562_555.out _).trans (((cell_far (p := ⟨gb555, _, none⟩) NB562_555.out _).trans (((cell_far (p := ⟨gb555, _, none⟩) NB562_555.out _).trans (hHeld.2.2.1)))))), ((cell_far (p := ⟨gb555, _, none⟩) NB569_555.out _).trans (((cell_far (p := ⟨gb555, _, none⟩) NB569_555.out _).trans (((cell_far (p := ⟨gb555, _, none⟩) NB569_555.out _).trans (hHeld.2.2.2.1)))))), ((cell_far (p := ⟨gb555, _, none⟩) NB569_555.out _).trans (((cell_far (p := ⟨gb555, _, none⟩) NB569_555.out _).trans (((cell_far (p := ⟨gb555, _, none⟩) NB569_555.out _).trans (hHeld.2.2.2.2.1)))))), ((cell_far (p := ⟨gb555, _, none⟩) NB569_555.out _).trans (((cell_far (p := ⟨gb555, _, none⟩) NB569_555.out _).trans (((cell_far (p := ⟨gb555, _, none⟩) NB569_555.out _).trans (hHeld.2.2.2.2.2))))))⟩ (fun hHeld => ?_)
    clear hK K
    refine pure_ (i := 19) (N := some 5) (v := ?_) (a' := ?_) #[true, true, true, true, true, true, true, true, true, true, true, true, true, true, true, true, true, true, true, true] rfl rfl (any_of HT_.out (by kernel_rfl)) (fun _ _ _ h => h) (Or.inl ⟨by rfl, ?_⟩) ?_ ?_
    rotate_left
    ·intro w'
     go_simp
     with_reducible rfl
    rotate_left
    ·simp only [Act.put, List.setIfInBounds_toArray, List.set_cons_zero, List.set_cons_succ, i64_w, i32_w]
     rfl
    refine done_ (done_of HT_.out (by kernel_rfl)) ?_
    try go_wp2
    refine bodyPost_ret (results_ct rfl _ _ gb555 43 #[.bool t573, .slice Ao43 t574.length co43, .int .i64 t577] (0, 0) _ rfl (by (with_reducible repeat (first | apply bN | apply bD | apply bA)); refine blk_put (cs := #[.bool t573, .slice Ao43 t574.length co43, .int .i64 0]) ?_ 2 _ rfl; (with_reducible repeat (first | apply bN | apply bD | apply bA)); refine blk_put (cs := #[.bool t573, .slice none 0 0, .int .i64 0]) ?_ 1 _ rfl; (with_reducible repeat (first | apply bN | apply bD | apply bA)); refine blk_put (cs := #[.bool false, .slice none 0 0, .int .i64 0]) ?_ 0 _ rfl; exact bk_ BK555) Try.underlying43 rfl (by kernel_rfl)) rfl ?_
    exact ⟨_, by first | rfl | (simp [errW_none, errW_some] <;> rfl) | (simp [*, errW_none, errW_some] <;> rfl), by (with_reducible repeat (first | apply rA | apply rN | apply rD)); exact Kd.R_mono (Kd.R_far (p := ⟨gb555, 2, none⟩) (Kd.R_far (p := ⟨gb555, 1, none⟩) (Kd.R_far (p := ⟨gb555, 0, none⟩) (Kd.R_types HO576.out BK555.out (by decide)) (fun _ hk => hk.2) (.bool t573)) (fun _ hk => hk.2) (.slice Ao43 t574.length co43)) (fun _ hk => hk.2) (.int .i64 t577)) (fun _ hk => trivial), bl_ HB⟩

end Go.Proofs.Ytdemanikmaafeaa.Pr
-- written by this session's own program (wip/fprint.py), which widens the kit's print by floats
namespace Go.Proofs.Ytdemanikmaafeaa.Pr
open Go.RowKit Go.Proofs.YtdemanikmaafeaaW.PrintWords Go.Proofs.YtdemanikmaafeaaW.PrintLast Go.Proofs.YtdemanikmaafeaaW.PrintMore
attribute [local go_sem] max2_int min2_int max_two min_two max_three min_three max_four min_four   -- for this text's walks alone
set_option linter.unusedVariables false
set_option linter.unusedSimpArgs false

/-! ### l05_products: function 32 -/
def l05_products.j0 : Nat → Nat → Nat → Bool → Bool → List Int → Int → Option (Bool)
 | 0, _, _, _, _, _, _ => none
 | k + 1, x0, x1, x52, x829000, x829001, x829002 => if x52 = true then (some true) else ((pair_Product.f x0 x1).bind fun bt841 => ((l05_just.f k bt841.1 bt841.2 x829000 x829001 x829002).bind fun t843 => (some t843)))
def l05_products.f (k : Nat) (a0 : Nat) (a1 : Nat) (a2_0 : Bool) (l2_1 : List Int) (a2_2 : Int) (a3_0 : Bool) (l3_1 : List Int) (a3_2 : Int) : Option (Bool) := (r03_Mul.f k a2_0 l2_1 a2_2 a3_0 l3_1 a3_2).bind fun bt822 => ((l05_within.f k a2_0 l2_1 a2_2 995).bind fun t829 => ((l05_within.f k a3_0 l3_1 a3_2 995).bind fun t830 => ((l05_within.f k bt822.1 bt822.2.1 bt822.2.2.1 1021).bind fun t831 => ((l05_size.f bt822.1 bt822.2.1 bt822.2.2.1).bind fun bt832 => ((r03_Cmp.f k bt832.1 bt832.2.1 bt832.2.2 false (([1] : List Int)) (-969)).bind fun t840 => (if t829 = true then (if t830 = true then (if t831 = true then (if t840 ≥ 0 then (l05_products.j0 k a0 a1 false bt822.1 bt822.2.1 bt822.2.2.1) else (l05_products.j0 k a0 a1 (decide ((bt822.2.1.length : Int) > 0)) bt822.1 bt822.2.1 bt822.2.2.1)) else (l05_products.j0 k a0 a1 true bt822.1 bt822.2.1 bt822.2.2.1)) else (l05_products.j0 k a0 a1 true bt822.1 bt822.2.1 bt822.2.2.1)) else (l05_products.j0 k a0 a1 true bt822.1 bt822.2.1 bt822.2.2.1)))))))
theorem l05_products.mono_l : ∀ k, (∀ y0 y1 y2 y3 y4 y5, LeO (l05_products.j0 k y0 y1 y2 y3 y4 y5) (l05_products.j0 (k + 1) y0 y1 y2 y3 y4 y5))
 | 0 => fun _ _ _ _ _ _ r h => by simp [l05_products.j0] at h
 | k + 1 => by
  have ih0 := l05_products.mono_l k
  ·intro y0 y1 y2 y3 y4 y5
   unfold l05_products.j0
   repeat' first
   | (with_reducible exact ih0 _ _ _ _ _ _)
   | (with_reducible exact l05_just.mono _ _ _ _ _ _)
   | (with_reducible exact l05_within.mono _ _ _ _ _)
   | (with_reducible exact r03_Cmp.mono _ _ _ _ _ _ _)
   | (with_reducible exact r03_Mul.mono _ _ _ _ _ _ _)
   | (with_reducible exact LeO.refl _)
   | (with_reducible exact LeO.none _)
   | (with_reducible refine LeO.ite ?_ ?_)
   | (with_reducible refine LeO.bind ?_ (fun _ => ?_))
   | exact ih0 _ _ _ _ _ _
   | exact l05_just.mono _ _ _ _ _ _
   | exact l05_within.mono _ _ _ _ _
   | exact r03_Cmp.mono _ _ _ _ _ _ _
   | exact r03_Mul.mono _ _ _ _ _ _ _
   | exact LeO.none _
   | refine LeO.ite ?_ ?_
   | refine LeO.bind ?_ (fun _ => ?_)
theorem l05_products.mono : ∀ a0 a1 a2 a3 a4 a5 a6 a7 k, LeO (l05_products.f k a0 a1 a2 a3 a4 a5 a6 a7) (l05_products.f (k + 1) a0 a1 a2 a3 a4 a5 a6 a7) := by
 intro a0 a1 a2 a3 a4 a5 a6 a7 k
 have ih0 := l05_products.mono_l k
 unfold l05_products.f
 repeat' first
   | (with_reducible exact ih0 _ _ _ _ _ _)
   | (with_reducible exact l05_just.mono _ _ _ _ _ _)
   | (with_reducible exact l05_within.mono _ _ _ _ _)
   | (with_reducible exact r03_Cmp.mono _ _ _ _ _ _ _)
   | (with_reducible exact r03_Mul.mono _ _ _ _ _ _ _)
   | (with_reducible exact LeO.refl _)
   | (with_reducible exact LeO.none _)
   | (with_reducible refine LeO.ite ?_ ?_)
   | (with_reducible refine LeO.bind ?_ (fun _ => ?_))
   | exact ih0 _ _ _ _ _ _
   | exact l05_just.mono _ _ _ _ _ _
   | exact l05_within.mono _ _ _ _ _
   | exact r03_Cmp.mono _ _ _ _ _ _ _
   | exact r03_Mul.mono _ _ _ _ _ _ _
   | exact LeO.none _
   | refine LeO.ite ?_ ?_
   | refine LeO.bind ?_ (fun _ => ?_)
set_option maxHeartbeats 3000000 in
set_option maxRecDepth 100000 in
theorem l05_products.calls (k : Nat) (a0 : Nat) (a1 : Nat) (a2_0 : Bool) (A2_1 : Option Addr) (c2_1 : Nat) (l2_1 : List Int) (a2_2 : Int) (a3_0 : Bool) (A3_1 : Option Addr) (c3_1 : Nat) (l3_1 : List Int) (a3_2 : Int) (r : Bool) (w : World) (hr2_1 : Kd.C (Kd.int .u32) w A2_1 l2_1.length l2_1) (hc2_1 : l2_1.length ≤ c2_1) (hr3_1 : Kd.C (Kd.int .u32) w A3_1 l3_1.length l3_1) (hc3_1 : l3_1.length ≤ c3_1) (h : l05_products.f k a0 a1 a2_0 l2_1 a2_2 a3_0 l3_1 a3_2 = some r) :
  Calls Try.prog 32 #[.float .f64 a0, .float .f64 a1, .agg #[.bool a2_0, .slice A2_1 l2_1.length c2_1, .int .i64 a2_2], .agg #[.bool a3_0, .slice A3_1 l3_1.length c3_1, .int .i64 a3_2]] w fun e w' => e = .returned (.bool r) ∧ Below w.heap.size w w' := by
 have hu43 := Try.underlying43
 have HR2_1 := Aside0.mk hr2_1
 have HC2_1 := Aside0.mk hc2_1
 clear hr2_1 hc2_1
 have HR3_1 := Aside0.mk hr3_1
 have HC3_1 := Aside0.mk hc3_1
 clear hr3_1 hc3_1
 have HB := Aside0.mk (Below.refl w.heap.size w)
 have H : ((r03_Mul.f k a2_0 l2_1 a2_2 a3_0 l3_1 a3_2).bind fun bt822 => ((l05_within.f k a2_0 l2_1 a2_2 995).bind fun t829 => ((l05_within.f k a3_0 l3_1 a3_2 995).bind fun t830 => ((l05_within.f k bt822.1 bt822.2.1 bt822.2.2.1 1021).bind fun t831 => ((l05_size.f bt822.1 bt822.2.1 bt822.2.2.1).bind fun bt832 => ((r03_Cmp.f k bt832.1 bt832.2.1 bt832.2.2 false (([1] : List Int)) (-969)).bind fun t840 => (if t829 = true then (if t830 = true then (if t831 = true then (if t840 ≥ 0 then (l05_products.j0 k a0 a1 false bt822.1 bt822.2.1 bt822.2.2.1) else (l05_products.j0 k a0 a1 (decide ((bt822.2.1.length : Int) > 0)) bt822.1 bt822.2.1 bt822.2.2.1)) else (l05_products.j0 k a0 a1 true bt822.1 bt822.2.1 bt822.2.2.1)) else (l05_products.j0 k a0 a1 true bt822.1 bt822.2.1 bt822.2.2.1)) else (l05_products.j0 k a0 a1 true bt822.1 bt822.2.1 bt822.2.2.1)))))))) = some r := h
 clear h
 obtain ⟨⟨t822, t823, t826, t827⟩, A5, H⟩ := ob_ H
 try dsimp only at H
 obtain ⟨t829, A6, H⟩ := ob_ H
 try dsimp only at H
 obtain ⟨t830, A7, H⟩ := ob_ H
 try dsimp only at H
 obtain ⟨t831, A8, H⟩ := ob_ H
 try dsimp only at H
 obtain ⟨⟨t832, t833, t836⟩, A9, H⟩ := ob_ H
 try dsimp only at H
 obtain ⟨y837, hy837⟩ : ∃ y_ : List Int, y_ = (([1] : List Int)) := ⟨_, rfl⟩
 replace H : ((r03_Cmp.f k t832 t833 t836 false y837 (-969)).bind fun t840 => (if t829 = true then (if t830 = true then (if t831 = true then (if t840 ≥ 0 then (l05_products.j0 k a0 a1 false t822 t823 t826) else (l05_products.j0 k a0 a1 (decide ((t823.length : Int) > 0)) t822 t823 t826)) else (l05_products.j0 k a0 a1 true t822 t823 t826)) else (l05_products.j0 k a0 a1 true t822 t823 t826)) else (l05_products.j0 k a0 a1 true t822 t823 t826))) = some r := by first | (rw [hy837]; with_reducible exact H) | (have H2_ := (Option.bind_some _ _).symm.trans H; rw [hy837]; with_reducible exact H2_) | (have H2_ := (Option.bind_some _ _).symm.trans H; with_reducible exact H2_) | with_reducible exact H | (rw [hy837]; exact H) | exact H
 have Ny837 := Aside0.mk hy837
 clear hy837
 obtain ⟨t840, A10, H⟩ := ob_ H
 try dsimp only at H
 have HC11 := Aside0.mk H
 clear H
 go_enter Try.func32, Try.ntmps32
 go_upto_region 6 with (first | ((with_reducible refine gate_dst (N := 6) rfl ?_); (try (refine gate_guard (by rfl) ?_; dsimp only)); refine box_event ?hg (N := 6) ?hd (cs := #[.bool a2_0, .slice A2_1 l2_1.length c2_1, .int .i64 a2_2]) (t := 43) ?hr ?_; (case hd => rfl); (case hg => rfl); (case hr => first | (go_simp; done) | (go_simp; rfl)); intro gb820 hg w12 hbox hb; have n0_ := bs_ HB hb; have n1_ := Aside0.mk (hbox); have n2_ := ge_ HB hg; have n3_ := ge_ HB hg; clear HB; have HB := n0_; have BK820 := n1_; have GW820 := n2_; have GE820 := n3_; clear n0_ n1_ n2_ n3_; clear hb hbox hg) | ((with_reducible refine gate_dst (N := 7) rfl ?_); (try (refine gate_guard (by rfl) ?_; dsimp only)); refine box_event ?hg (N := 7) ?hd (cs := #[.bool a3_0, .slice A3_1 l3_1.length c3_1, .int .i64 a3_2]) (t := 43) ?hr ?_; (case hd => rfl); (case hg => rfl); (case hr => first | (go_simp; done) | (go_simp; rfl)); intro gb821 hg w13 hbox hb; have n0_ := kb_ BK820 hb; have n1_ := bs_ HB hb; have n2_ := Aside0.mk (hbox); have n3_ := ge_ HB hg; have n4_ := ge_ HB hg; have n5_ := nlt_ BK820 hg; have n6_ := ngt_ BK820 hg; clear BK820; clear HB; have BK820 := n0_; have HB := n1_; have BK821 := n2_; have GW821 := n3_; have GE821 := n4_; have NB820_821 := n5_; have NB821_820 := n6_; clear n0_ n1_ n2_ n3_ n4_ n5_ n6_; clear hb hbox hg; have hnb14 := NB820_821.out; have hnc14 := NB821_820.out; have hcz15_0 : w13.cell? ⟨gb820, 0, none⟩ = some (.bool a2_0) := (blk_cell BK820.out 0).trans rfl; have hcz15_1 : w13.cell? ⟨gb820, 1, none⟩ = some (.slice A2_1 l2_1.length c2_1) := (blk_cell BK820.out 1).trans rfl; have hcz15_2 : w13.cell? ⟨gb820, 2, none⟩ = some (.int .i64 a2_2) := (blk_cell BK820.out 2).trans rfl; have hfz15_0 := blk_frozen BK820.out 0; have hfz15_1 := blk_frozen BK820.out 1; have hfz15_2 := blk_frozen BK820.out 2; have hcz16_0 : w13.cell? ⟨gb821, 0, none⟩ = some (.bool a3_0) := (blk_cell BK821.out 0).trans rfl; have hcz16_1 : w13.cell? ⟨gb821, 1, none⟩ = some (.slice A3_1 l3_1.length c3_1) := (blk_cell BK821.out 1).trans rfl; have hcz16_2 : w13.cell? ⟨gb821, 2, none⟩ = some (.int .i64 a3_2) := (blk_cell BK821.out 2).trans rfl; have hfz16_0 := blk_frozen BK821.out 0; have hfz16_1 := blk_frozen BK821.out 1; have hfz16_2 := blk_frozen BK821.out 2) | ((with_reducible refine gate_callee (f := 36) rfl ?_); refine goesM (some 18) Try.func36 #[.agg #[.bool a2_0, .slice A2_1 l2_1.length c2_1, .int .i64 a2_2], .agg #[.bool a3_0, .slice A3_1 l3_1.length c3_1, .int .i64 a3_2]] ?_; (with_reducible refine (r03_Mul.calls k a2_0 _ _ l2_1 a2_2 a3_0 _ _ l3_1 a3_2 t822 t823 t826 t827 _ ?side1 ?side2 ?side3 ?side4 A5.out).mono ?_); (case side1 => repeat (first | exact (Kd.C_below HR2_1.out HB.out) | (with_reducible first | apply cA | apply cN | apply cD))); (case side2 => exact HC2_1.out); (case side3 => repeat (first | exact (Kd.C_below HR3_1.out HB.out) | (with_reducible first | apply cA | apply cN | apply cD))); (case side4 => exact HC3_1.out); rintro e w17 ⟨v824, rfl, ho0, hb⟩; refine ⟨_, rfl, ?_⟩; have n0_ := Aside0.mk (Kd.R_lower ho0 (below_size (bl_ HB))); have n1_ := kb_ BK820 hb; have n2_ := kb_ BK821 hb; have n3_ := bs_ HB hb; clear BK820; clear BK821; clear HB; have HO825 := n0_; have BK820 := n1_; have BK821 := n2_; have HB := n3_; clear n0_ n1_ n2_ n3_; (try clear hb); (try clear hb2); (try clear hk); (try clear hi); (try clear ho0)) | ((with_reducible refine gate_dst (N := 9) rfl ?_); (try (refine gate_guard (by rfl) ?_; dsimp only)); refine box_event ?hg (N := 9) ?hd (cs := #[.bool false, .slice none 0 0, .int .i64 0]) (t := 43) ?hr ?_; (case hd => rfl); (case hg => rfl); (case hr => first | (go_simp; done) | (go_simp; rfl)); intro gb828 hg w18 hbox hb; have n0_ := Aside0.mk (Kd.R_below (rr_ HO825) hb); have n1_ := kb_ BK820 hb; have n2_ := kb_ BK821 hb; have n3_ := bs_ HB hb; have n4_ := Aside0.mk (hbox); have n5_ := ge_ HB hg; have n6_ := ge_ HB hg; have n7_ := nlt_ BK820 hg; have n8_ := ngt_ BK820 hg; have n9_ := nlt_ BK821 hg; have n10_ := ngt_ BK821 hg; clear HO825; clear BK820; clear BK821; clear HB; have HO825 := n0_; have BK820 := n1_; have BK821 := n2_; have HB := n3_; have BK828 := n4_; have GW828 := n5_; have GE828 := n6_; have NB820_828 := n7_; have NB828_820 := n8_; have NB821_828 := n9_; have NB828_821 := n10_; clear n0_ n1_ n2_ n3_ n4_ n5_ n6_ n7_ n8_ n9_ n10_; clear hb hbox hg; have hnb19 := NB828_820.out; have hnc19 := NB820_828.out; have hnb20 := NB828_821.out; have hnc20 := NB821_828.out; have hcz21_0 : w18.cell? ⟨gb828, 0, none⟩ = some (.bool false) := (blk_cell BK828.out 0).trans rfl; have hcz21_1 : w18.cell? ⟨gb828, 1, none⟩ = some (.slice none 0 0) := (blk_cell BK828.out 1).trans rfl; have hcz21_2 : w18.cell? ⟨gb828, 2, none⟩ = some (.int .i64 0) := (blk_cell BK828.out 2).trans rfl; have hfz21_0 := blk_frozen BK828.out 0; have hfz21_1 := blk_frozen BK828.out 1; have hfz21_2 := blk_frozen BK828.out 2; obtain ⟨Ao22, co22, eo22⟩ := Kd.R_slice HO825.out; subst eo22; have hcz23_0 : w18.cell? ⟨gb820, 0, none⟩ = some (.bool a2_0) := (blk_cell BK820.out 0).trans rfl; have hcz23_1 : w18.cell? ⟨gb820, 1, none⟩ = some (.slice A2_1 l2_1.length c2_1) := (blk_cell BK820.out 1).trans rfl; have hcz23_2 : w18.cell? ⟨gb820, 2, none⟩ = some (.int .i64 a2_2) := (blk_cell BK820.out 2).trans rfl; have hfz23_0 := blk_frozen BK820.out 0; have hfz23_1 := blk_frozen BK820.out 1; have hfz23_2 := blk_frozen BK820.out 2) | ((with_reducible refine gate_callee (f := 51) rfl ?_); refine goesM (some 22) Try.func51 #[.agg #[.bool a2_0, .slice A2_1 l2_1.length c2_1, .int .i64 a2_2], .int .i64 995] ?_; (with_reducible refine (l05_within.calls k a2_0 _ _ l2_1 a2_2 995 t829 _ ?side1 ?side2 A6.out).mono ?_); (case side1 => exact Kd.C_below HR2_1.out (bl_ HB)); (case side2 => exact HC2_1.out); rintro e w24 ⟨rfl, hb⟩; refine ⟨_, rfl, ?_⟩; have n0_ := Aside0.mk (Kd.R_below (by (with_reducible repeat (first | apply rA | apply rN | apply rD)); exact (Kd.R_mono (Kd.R_far (p := ⟨gb828, 2, none⟩) (Kd.R_far (p := ⟨gb828, 1, none⟩) (Kd.R_far (p := ⟨gb828, 0, none⟩) (Kd.R_types HO825.out BK828.out (by decide)) (fun _ hk => hk.2) (.bool t822)) (fun _ hk => hk.2) (.slice Ao22 t823.length co22)) (fun _ hk => hk.2) (.int .i64 t826)) (fun _ h_ => h_.1))) hb); have n1_ := Aside0.mk (blk_below (g := gb820) (o := .cells #[.bool a2_0, .slice A2_1 l2_1.length c2_1, .int .i64 a2_2] 43 (0, 0)) (by (with_reducible repeat (first | apply bN | apply bD | apply bA)); refine blk_far ?_ NB820_828.out _; (with_reducible repeat (first | apply bN | apply bD | apply bA)); refine blk_far ?_ NB820_828.out _; (with_reducible repeat (first | apply bN | apply bD | apply bA)); refine blk_far ?_ NB820_828.out _; exact bk_ BK820) hb); have n2_ := Aside0.mk (blk_below (g := gb821) (o := .cells #[.bool a3_0, .slice A3_1 l3_1.length c3_1, .int .i64 a3_2] 43 (0, 0)) (by (with_reducible repeat (first | apply bN | apply bD | apply bA)); refine blk_far ?_ NB821_828.out _; (with_reducible repeat (first | apply bN | apply bD | apply bA)); refine blk_far ?_ NB821_828.out _; (with_reducible repeat (first | apply bN | apply bD | apply bA)); refine blk_far ?_ NB821_828.out _; exact bk_ BK821) hb); have n3_ := Aside0.mk (blk_below (g := gb828) (o := .cells #[.bool t822, .slice Ao22 t823.length co22, .int .i64 t826] 43 (0, 0)) (by (with_reducible repeat (first | apply bN | apply bD | apply bA)); refine blk_put (cs := #[.bool t822, .slice Ao22 t823.length co22, .int .i64 0]) ?_ 2 _ rfl; (with_reducible repeat (first | apply bN | apply bD | apply bA)); refine blk_put (cs := #[.bool t822, .slice none 0 0, .int .i64 0]) ?_ 1 _ rfl; (with_reducible repeat (first | apply bN | apply bD | apply bA)); refine blk_put (cs := #[.bool false, .slice none 0 0, .int .i64 0]) ?_ 0 _ rfl; exact bk_ BK828) hb); have n4_ := bs_ HB hb; clear HO825; clear BK820; clear BK821; clear BK828; clear HB; have HO825 := n0_; have BK820 := n1_; have BK821 := n2_; have BK828 := n3_; have HB := n4_; clear n0_ n1_ n2_ n3_ n4_; (try clear hb); (try clear hb2); (try clear hk); (try clear hi); have hcz25_0 : w24.cell? ⟨gb821, 0, none⟩ = some (.bool a3_0) := (blk_cell BK821.out 0).trans rfl; have hcz25_1 : w24.cell? ⟨gb821, 1, none⟩ = some (.slice A3_1 l3_1.length c3_1) := (blk_cell BK821.out 1).trans rfl; have hcz25_2 : w24.cell? ⟨gb821, 2, none⟩ = some (.int .i64 a3_2) := (blk_cell BK821.out 2).trans rfl; have hfz25_0 := blk_frozen BK821.out 0; have hfz25_1 := blk_frozen BK821.out 1; have hfz25_2 := blk_frozen BK821.out 2) | ((with_reducible refine gate_callee (f := 51) rfl ?_); refine goesM (some 24) Try.func51 #[.agg #[.bool a3_0, .slice A3_1 l3_1.length c3_1, .int .i64 a3_2], .int .i64 995] ?_; (with_reducible refine (l05_within.calls k a3_0 _ _ l3_1 a3_2 995 t830 _ ?side1 ?side2 A7.out).mono ?_); (case side1 => repeat (first | exact (Kd.C_below HR3_1.out HB.out) | (with_reducible first | apply cA | apply cN | apply cD))); (case side2 => exact HC3_1.out); rintro e w26 ⟨rfl, hb⟩; refine ⟨_, rfl, ?_⟩; have n0_ := Aside0.mk (Kd.R_below (rr_ HO825) hb); have n1_ := kb_ BK820 hb; have n2_ := kb_ BK821 hb; have n3_ := kb_ BK828 hb; have n4_ := bs_ HB hb; clear HO825; clear BK820; clear BK821; clear BK828; clear HB; have HO825 := n0_; have BK820 := n1_; have BK821 := n2_; have BK828 := n3_; have HB := n4_; clear n0_ n1_ n2_ n3_ n4_; (try clear hb); (try clear hb2); (try clear hk); (try clear hi); have hcz27_0 : w26.cell? ⟨gb828, 0, none⟩ = some (.bool t822) := (blk_cell BK828.out 0).trans rfl; have hcz27_1 : w26.cell? ⟨gb828, 1, none⟩ = some (.slice Ao22 t823.length co22) := (blk_cell BK828.out 1).trans rfl; have hcz27_2 : w26.cell? ⟨gb828, 2, none⟩ = some (.int .i64 t826) := (blk_cell BK828.out 2).trans rfl; have hfz27_0 := blk_frozen BK828.out 0; have hfz27_1 := blk_frozen BK828.out 1; have hfz27_2 := blk_frozen BK828.out 2) | ((with_reducible refine gate_callee (f := 51) rfl ?_); refine goesM (some 26) Try.func51 #[.agg #[.bool t822, .slice Ao22 t823.length co22, .int .i64 t826], .int .i64 1021] ?_; (with_reducible refine (l05_within.calls k t822 _ _ t823 t826 1021 t831 _ ?side1 ?side2 A8.out).mono ?_); (case side1 => repeat (first | exact (Kd.R_reads' HO825.out).2.2 | (with_reducible first | apply cA | apply cN | apply cD))); (case side2 => exact (Kd.R_reads' HO825.out).2.1); rintro e w28 ⟨rfl, hb⟩; refine ⟨_, rfl, ?_⟩; have n0_ := Aside0.mk (Kd.R_below (rr_ HO825) hb); have n1_ := kb_ BK820 hb; have n2_ := kb_ BK821 hb; have n3_ := kb_ BK828 hb; have n4_ := bs_ HB hb; clear HO825; clear BK820; clear BK821; clear BK828; clear HB; have HO825 := n0_; have BK820 := n1_; have BK821 := n2_; have BK828 := n3_; have HB := n4_; clear n0_ n1_ n2_ n3_ n4_; (try clear hb); (try clear hb2); (try clear hk); (try clear hi); have hcz29_0 : w28.cell? ⟨gb828, 0, none⟩ = some (.bool t822) := (blk_cell BK828.out 0).trans rfl; have hcz29_1 : w28.cell? ⟨gb828, 1, none⟩ = some (.slice Ao22 t823.length co22) := (blk_cell BK828.out 1).trans rfl; have hcz29_2 : w28.cell? ⟨gb828, 2, none⟩ = some (.int .i64 t826) := (blk_cell BK828.out 2).trans rfl; have hfz29_0 := blk_frozen BK828.out 0; have hfz29_1 := blk_frozen BK828.out 1; have hfz29_2 := blk_frozen BK828.out 2) | ((with_reducible refine gate_callee (f := 54) rfl ?_); refine goesM (some 28) Try.func54 #[.agg #[.bool t822, .slice Ao22 t823.length co22, .int .i64 t826]] ?_; (with_reducible refine (l05_size.calls t822 (fun k_ => some k_ = (.slice Ao22 t823.length co22 : Value).ownBlock) _ _ t823 t826 t832 t833 t836 _ ?side1 A9.out).mono ?_); (case side1 => exact Kd.R_V (Kd.R_tight rfl (Kd.R_types (Kd.R_types (Kd.R_types (HO825.out) BK820.out (by decide)) BK821.out (by decide)) BK828.out (by decide)))); rintro e w30 ⟨v834, rfl, ho0, hb⟩; refine ⟨_, rfl, ?_⟩; have n0_ := Aside0.mk (Kd.R_below (rr_ HO825) hb); have n1_ := Aside0.mk (Kd.V_lower (Kd.V_mono (ok' := fun k_ => k_ ≠ gb820 ∧ k_ ≠ gb821 ∧ k_ ≠ gb828) ho0 (fun k_ hk_ => ⟨Or.elim hk_ (fun hs_ => ((Kd.R_types (Kd.R_types (Kd.R_types (HO825.out) BK820.out (by decide)) BK821.out (by decide)) BK828.out (by decide)).1 k_ hs_.symm).1.1.2) (fun hn_ => (Kd.freshB (g := gb820) (o := .cells #[.bool a2_0, .slice A2_1 l2_1.length c2_1, .int .i64 a2_2] 43 (0, 0)) (bk_ BK820) k_ hn_)), Or.elim hk_ (fun hs_ => ((Kd.R_types (Kd.R_types (Kd.R_types (HO825.out) BK820.out (by decide)) BK821.out (by decide)) BK828.out (by decide)).1 k_ hs_.symm).1.2) (fun hn_ => (Kd.freshB (g := gb821) (o := .cells #[.bool a3_0, .slice A3_1 l3_1.length c3_1, .int .i64 a3_2] 43 (0, 0)) (bk_ BK821) k_ hn_)), Or.elim hk_ (fun hs_ => ((Kd.R_types (Kd.R_types (Kd.R_types (HO825.out) BK820.out (by decide)) BK821.out (by decide)) BK828.out (by decide)).1 k_ hs_.symm).2) (fun hn_ => (Kd.freshB (g := gb828) (o := .cells #[.bool t822, .slice Ao22 t823.length co22, .int .i64 t826] 43 (0, 0)) (bk_ BK828) k_ hn_))⟩)) (below_size (bl_ HB))); have n2_ := kb_ BK820 hb; have n3_ := kb_ BK821 hb; have n4_ := kb_ BK828 hb; have n5_ := bs_ HB hb; clear HO825; clear BK820; clear BK821; clear BK828; clear HB; have HO825 := n0_; have HO835 := n1_; have BK820 := n2_; have BK821 := n3_; have BK828 := n4_; have HB := n5_; clear n0_ n1_ n2_ n3_ n4_ n5_; (try clear hb); (try clear hb2); (try clear hk); (try clear hi); (try clear ho0)) | ((with_reducible refine gate_dst (N := 29) rfl ?_); (try (refine gate_guard (by rfl) ?_; dsimp only)); refine Kd.R_lit (Kd.int .u32) _ 72 ?hg (N := 29) ?hd (xs := ([1] : List Int)) (inner := [.int .u32 1]) (ok := fun _ => True) (okp := fun _ => True) ?hr ?hp (fun _ hk => hk) trivial (Below.refl _ _) (Nat.le_refl _) (by simp) ?_; (case hd => rfl); (case hg => rfl); (case hr => first | (go_simp; done) | (go_simp; rfl)); (case hp => exact (Reps.one (show Kd.M (Kd.int .u32) _ _ _ 1 [.int .u32 1] from rfl) (Reps.none _ _))); intro v838 w31 ho32 hb hg_ hnew_; clear hg_ hnew_; (first | rw [← Ny837.out] at ho32 | (simp only [Int.reduceToNat] at ho32; rw [← Ny837.out] at ho32)); have n0_ := Aside0.mk (Kd.R_elder' (rr_ HO825) (Kd.R_base ho32) hb); have n1_ := Aside0.mk (Kd.V_elder' (by (with_reducible repeat (first | apply Kd.V_alloc | apply Kd.V_drewN | apply Kd.V_drew)); exact HO835.out) (Kd.R_base ho32) hb); have n2_ := Aside0.mk (Kd.R_lower (Kd.R_new' ho32 (Kd.R_lt (rr_ HO825))) (below_size (bl_ HB))); have n3_ := kb_ BK820 hb; have n4_ := kb_ BK821 hb; have n5_ := kb_ BK828 hb; have n6_ := bs_ HB hb; clear HO825; clear HO835; clear BK820; clear BK821; clear BK828; clear HB; have HO825 := n0_; have HO835 := n1_; have HO839 := n2_; have BK820 := n3_; have BK821 := n4_; have BK828 := n5_; have HB := n6_; clear n0_ n1_ n2_ n3_ n4_ n5_ n6_; clear hb ho32; obtain ⟨Ao33, co33, eo33⟩ := Kd.R_slice HO839.out; subst eo33; obtain ⟨Ao34, co34, eo34⟩ := Kd.V_slice HO835.out; subst eo34) | ((with_reducible refine gate_callee (f := 53) rfl ?_); refine goesM (some 31) Try.func53 #[.agg #[.bool t832, .slice Ao34 t833.length co34, .int .i64 t836], .agg #[.bool false, .slice Ao33 y837.length co33, .int .i64 (-969)]] ?_; (with_reducible refine (r03_Cmp.calls k t832 _ _ t833 t836 false _ _ y837 (-969) t840 _ ?side1 ?side2 ?side3 ?side4 A10.out).mono ?_); (case side1 => repeat (first | exact (Kd.V_reads' HO835.out).2.2 | (with_reducible first | apply cA | apply cN | apply cD))); (case side2 => exact (Kd.V_reads' HO835.out).2.1); (case side3 => repeat (first | exact (Kd.R_reads' HO839.out).2.2 | (with_reducible first | apply cA | apply cN | apply cD))); (case side4 => exact (Kd.R_reads' HO839.out).2.1); rintro e w35 ⟨rfl, hb⟩; refine ⟨_, rfl, ?_⟩; have n0_ := Aside0.mk (Kd.R_below (rr_ HO825) hb); have n1_ := Aside0.mk (Kd.V_below (by (with_reducible repeat (first | apply Kd.V_alloc | apply Kd.V_drewN | apply Kd.V_drew)); exact HO835.out) hb); have n2_ := Aside0.mk (Kd.R_below (rr_ HO839) hb); have n3_ := kb_ BK820 hb; have n4_ := kb_ BK821 hb; have n5_ := kb_ BK828 hb; have n6_ := bs_ HB hb; clear HO825; clear HO835; clear HO839; clear BK820; clear BK821; clear BK828; clear HB; have HO825 := n0_; have HO835 := n1_; have HO839 := n2_; have BK820 := n3_; have BK821 := n4_; have BK828 := n5_; have HB := n6_; clear n0_ n1_ n2_ n3_ n4_ n5_ n6_; (try clear hb); (try clear hb2); (try clear hk); (try clear hi)))
 (try simp only [Act.put, List.setIfInBounds_toArray, List.set_cons_zero, List.set_cons_succ])
 obtain ⟨bz36, hbz36⟩ : ∃ b_ : Bool, decide (0 ≤ t840) = b_ := ⟨_, rfl⟩
 (try rw [hbz36])
 go_cut [52] (fun v52 wc => ∃ (kq : Nat) (x52_10 : Bool), v52 = .bool x52_10 ∧ Aside0 (l05_products.j0 kq a0 a1 x52_10 t822 t823 t826 = some r) ∧ Aside0 (kq ≤ k) ∧ Aside0 (Kd.R (Kd.int .u32) 72 wc w.heap.size (fun _ => True) (.slice Ao22 t823.length co22) t823) ∧ Aside0 (wc.heap[gb820]? = some (.cells #[.bool a2_0, (.slice A2_1 l2_1.length c2_1), .int .i64 a2_2] 43 (0, 0))) ∧ Aside0 (wc.heap[gb821]? = some (.cells #[.bool a3_0, (.slice A3_1 l3_1.length c3_1), .int .i64 a3_2] 43 (0, 0))) ∧ Aside0 (wc.heap[gb828]? = some (.cells #[.bool t822, (.slice Ao22 t823.length co22), .int .i64 t826] 43 (0, 0))) ∧ Aside0 (Below w.heap.size w wc))
 case first =>
  have H := HC11.out
  clear HC11
  by_cases c37 : t829 = true
  ·subst c37
   have H1 : (if t830 = true then (if t831 = true then (if t840 ≥ 0 then (l05_products.j0 k a0 a1 false t822 t823 t826) else (l05_products.j0 k a0 a1 (decide ((t823.length : Int) > 0)) t822 t823 t826)) else (l05_products.j0 k a0 a1 true t822 t823 t826)) else (l05_products.j0 k a0 a1 true t822 t823 t826)) = some r := by rw [if_pos rfl] at H; exact H
   clear H
   have H := H1
   clear H1
   by_cases c38 : t830 = true
   ·subst c38
    have H1 : (if t831 = true then (if t840 ≥ 0 then (l05_products.j0 k a0 a1 false t822 t823 t826) else (l05_products.j0 k a0 a1 (decide ((t823.length : Int) > 0)) t822 t823 t826)) else (l05_products.j0 k a0 a1 true t822 t823 t826)) = some r := by rw [if_pos rfl] at H; exact H
    clear H
    have H := H1
    clear H1
    by_cases c39 : t831 = true
    ·subst c39
     have H1 : (if t840 ≥ 0 then (l05_products.j0 k a0 a1 false t822 t823 t826) else (l05_products.j0 k a0 a1 (decide ((t823.length : Int) > 0)) t822 t823 t826)) = some r := by rw [if_pos rfl] at H; exact H
     clear H
     have H := H1
     clear H1
     by_cases c40 : t840 ≥ 0
     ·rw [if_pos c40] at H
      have c40b0 : decide (0 ≤ t840) = true := decide_eq_true c40
      (try obtain rfl : bz36 = true := hbz36.symm.trans c40b0)
      clear c40
      (first | rw [c40b0] | (simp only [i64_w, i32_w]; rw [c40b0]) | skip)
      have H' := Aside0.mk H
      clear H
      go_wp2
      go_meet
      case rel => exact ⟨_, (false), (by first | rfl | (simp; done) | (simp [*]; done)), H', ⟨by first | omega | exact Nat.le_refl _⟩, ⟨by (with_reducible repeat (first | apply rA | apply rN | apply rD)); exact Kd.R_mono HO825.out (fun _ hk => trivial)⟩, ⟨bk_ BK820⟩, ⟨bk_ BK821⟩, ⟨bk_ BK828⟩, ⟨bl_ HB⟩⟩
     ·rw [if_neg c40] at H
      have c40b0 : decide (0 ≤ t840) = false := decide_eq_false c40
      (try obtain rfl : bz36 = false := hbz36.symm.trans c40b0)
      clear c40
      (first | rw [c40b0] | (simp only [i64_w, i32_w]; rw [c40b0]) | skip)
      have H' := Aside0.mk H
      clear H
      have hnb41 := NB828_820.out
      have hnc41 := NB820_828.out
      have hnb42 := NB828_821.out
      have hnc42 := NB821_828.out
      have hcz43_0 : w35.cell? ⟨gb828, 0, none⟩ = some (.bool t822) := (blk_cell BK828.out 0).trans rfl
      have hcz43_1 : w35.cell? ⟨gb828, 1, none⟩ = some (.slice Ao22 t823.length co22) := (blk_cell BK828.out 1).trans rfl
      have hcz43_2 : w35.cell? ⟨gb828, 2, none⟩ = some (.int .i64 t826) := (blk_cell BK828.out 2).trans rfl
      have hfz43_0 := blk_frozen BK828.out 0
      have hfz43_1 := blk_frozen BK828.out 1
      have hfz43_2 := blk_frozen BK828.out 2
      go_wp2
      go_meet
      case rel => exact ⟨_, (decide ((t823.length : Int) > 0)), (by first | rfl | (simp; done) | (simp [*]; done)), H', ⟨by first | omega | exact Nat.le_refl _⟩, ⟨by (with_reducible repeat (first | apply rA | apply rN | apply rD)); exact Kd.R_mono HO825.out (fun _ hk => trivial)⟩, ⟨bk_ BK820⟩, ⟨bk_ BK821⟩, ⟨bk_ BK828⟩, ⟨bl_ HB⟩⟩
    ·replace c39 := Bool.eq_false_iff.mpr c39
     subst c39
     have H1 : (l05_products.j0 k a0 a1 true t822 t823 t826) = some r := by rw [if_neg (show ¬ (false = true) by decide)] at H; exact H
     clear H
     have H := H1
     clear H1
     have H' := Aside0.mk H
     clear H
     go_wp2
     go_meet
     case rel => exact ⟨_, (true), (by first | rfl | (simp; done) | (simp [*]; done)), H', ⟨by first | omega | exact Nat.le_refl _⟩, ⟨by (with_reducible repeat (first | apply rA | apply rN | apply rD)); exact Kd.R_mono HO825.out (fun _ hk => trivial)⟩, ⟨bk_ BK820⟩, ⟨bk_ BK821⟩, ⟨bk_ BK828⟩, ⟨bl_ HB⟩⟩
   ·replace c38 := Bool.eq_false_iff.mpr c38
    subst c38
    have H1 : (l05_products.j0 k a0 a1 true t822 t823 t826) = some r := by rw [if_neg (show ¬ (false = true) by decide)] at H; exact H
    clear H
    have H := H1
    clear H1
    have H' := Aside0.mk H
    clear H
    go_wp2
    go_meet
    case rel => exact ⟨_, (true), (by first | rfl | (simp; done) | (simp [*]; done)), H', ⟨by first | omega | exact Nat.le_refl _⟩, ⟨by (with_reducible repeat (first | apply rA | apply rN | apply rD)); exact Kd.R_mono HO825.out (fun _ hk => trivial)⟩, ⟨bk_ BK820⟩, ⟨bk_ BK821⟩, ⟨bk_ BK828⟩, ⟨bl_ HB⟩⟩
  ·replace c37 := Bool.eq_false_iff.mpr c37
   subst c37
   have H1 : (l05_products.j0 k a0 a1 true t822 t823 t826) = some r := by rw [if_neg (show ¬ (false = true) by decide)] at H; exact H
   clear H
   have H := H1
   clear H1
   have H' := Aside0.mk H
   clear H
   go_wp2
   go_meet
   case rel => exact ⟨_, (true), (by first | rfl | (simp; done) | (simp [*]; done)), H', ⟨by first | omega | exact Nat.le_refl _⟩, ⟨by (with_reducible repeat (first | apply rA | apply rN | apply rD)); exact Kd.R_mono HO825.out (fun _ hk => trivial)⟩, ⟨bk_ BK820⟩, ⟨bk_ BK821⟩, ⟨bk_ BK828⟩, ⟨bl_ HB⟩⟩
 case rest =>
  clear HC11
  try clear c1
  try clear c2
  try clear p2
  try clear c3
  try clear c4
  try clear c5
  try clear c14
  try clear c19
  try clear c20
  try clear c32
  try clear c36
  try clear c37
  try clear c38
  try clear c39
  try clear c40
  try clear c40b0
  try clear c41
  try clear c42
  try clear hcz15_0
  try clear hcz15_1
  try clear hcz15_2
  try clear hcz16_0
  try clear hcz16_1
  try clear hcz16_2
  try clear hcz21_0
  try clear hcz21_1
  try clear hcz21_2
  try clear hcz23_0
  try clear hcz23_1
  try clear hcz23_2
  try clear hcz25_0
  try clear hcz25_1
  try clear hcz25_2
  try clear hcz27_0
  try clear hcz27_1
  try clear hcz27_2
  try clear hcz29_0
  try clear hcz29_1
  try clear hcz29_2
  try clear hcz43_0
  try clear hcz43_1
  try clear hcz43_2
  try clear hfz15_0
  try clear hfz15_1
  try clear hfz15_2
  try clear hfz16_0
  try clear hfz16_1
  try clear hfz16_2
  try clear hfz21_0
  try clear hfz21_1
  try clear hfz21_2
  try clear hfz23_0
  try clear hfz23_1
  try clear hfz23_2
  try clear hfz25_0
  try clear hfz25_1
  try clear hfz25_2
  try clear hfz27_0
  try clear hfz27_1
  try clear hfz27_2
  try clear hfz29_0
  try clear hfz29_1
  try clear hfz29_2
  try clear hfz43_0
  try clear hfz43_1
  try clear hfz43_2
  obtain ⟨kq, x52_10, rfl, HA, HJ10, HO_829001, BK820, BK821, BK828, HB⟩ := hcut
  cases kq with
  | zero => exact absurd HA.out (by simp [l05_products.j0])
  | succ kj10 =>
   have H := HA.out
   clear HA
   simp only [l05_products.j0] at H
   by_cases c44 : x52_10 = true
   ·subst c44
    have H1 : (some true) = some r := by rw [if_pos rfl] at H; exact H
    clear H
    have H := H1
    clear H1
    obtain rfl := Option.some.inj H
    go_wp2
    go_ret
    exact ⟨by first | rfl | (simp [errW_none, errW_some] <;> rfl) | (simp [*, errW_none, errW_some] <;> rfl), bl_ HB⟩
   ·replace c44 := Bool.eq_false_iff.mpr c44
    subst c44
    have H1 : ((pair_Product.f a0 a1).bind fun bt841 => ((l05_just.f kj10 bt841.1 bt841.2 t822 t823 t826).bind fun t843 => (some t843))) = some r := by rw [if_neg (show ¬ (false = true) by decide)] at H; exact H
    clear H
    have H := H1
    clear H1
    obtain ⟨⟨t841, t842⟩, A45, H⟩ := ob_ H
    try dsimp only at H
    obtain ⟨t843, A46, H⟩ := ob_ H
    try dsimp only at H
    obtain rfl := Option.some.inj H
    try go_wp2
    have n0_ := Aside0.mk (Kd.R_drew HO_829001.out)
    have n1_ := Aside0.mk (blk_drew BK820.out)
    have n2_ := Aside0.mk (blk_drew BK821.out)
    have n3_ := Aside0.mk (blk_drew BK828.out)
    have n4_ := Aside0.mk (below_drew1 HB.out)
    clear HO_829001
    clear BK820
    clear BK821
    clear BK828
    clear HB
    have HO_829001 := n0_
    have BK820 := n1_
    have BK821 := n2_
    have BK828 := n3_
    have HB := n4_
    clear n0_ n1_ n2_ n3_ n4_
    refine start_ (n := 6) (S := fun w' => w'.cell? ⟨gb828, 0, none⟩ = some (.bool t822) ∧ w'.cell? ⟨gb828, 1, none⟩ = some (.slice Ao22 t823.length co22) ∧ w'.cell? ⟨gb828, 2, none⟩ = some (.int .i64 t826)) (ds := []) #[false, false, false, false, false, false] (by kernel_rfl) rfl rfl ⟨(blk_cell BK828.out 0).trans rfl, (blk_cell BK828.out 1).trans rfl, (blk_cell BK828.out 2).trans rfl⟩ (fun hHeld => ?_)
    generalize wc.drew = w47 at HO_829001 BK820 BK821 BK828 HB hHeld ⊢
    refine pure_ (i := 0) (N := some 53) (v := ?_) (a' := ?_) #[true, false, false, false, false, false] rfl rfl (by kernel_rfl) (fun _ _ _ h => h) (Or.inl ⟨by rfl, ?_⟩) ?_ ?_
    rotate_left
    ·intro w'
     go_simp
     with_reducible rfl
    rotate_left
    ·simp only [Act.put, List.setIfInBounds_toArray, List.set_cons_zero, List.set_cons_succ, i64_w, i32_w]
     rfl
    refine pure_ (i := 1) (N := some 54) (v := ?_) (a' := ?_) #[true, true, false, false, false, false] rfl rfl (by kernel_rfl) (fun _ _ _ h => h) (Or.inl ⟨by rfl, ?_⟩) ?_ ?_
    rotate_left
    ·intro w'
     go_simp
     with_reducible rfl
    rotate_left
    ·simp only [Act.put, List.setIfInBounds_toArray, List.set_cons_zero, List.set_cons_succ, i64_w, i32_w]
     rfl
    refine take_ (i := 3) (N := some 56) (v := ?_) (a' := ?_) #[true, true, false, true, false, false] rfl rfl (by kernel_rfl) (fun _ _ _ h => h) (Or.inl ⟨by rfl, ?_⟩) hHeld ?_ ?_
    rotate_left
    ·rintro w' ⟨s0, s1, s2⟩
     go_simp
     with_reducible rfl
    rotate_left
    ·simp only [Act.put, List.setIfInBounds_toArray, List.set_cons_zero, List.set_cons_succ, i64_w, i32_w]
     rfl
    refine one_ (i := 2) (N := some 55) #[true, true, true, true, false, false] rfl rfl (by kernel_rfl) (by decide) (fun K hK => ?_)
    refine goes_ Try.func14 (by kernel_rfl) rfl #[.float .f64 a0, .float .f64 a1] (by rfl) rfl rfl (by (try simp only [List.map_toArray, List.map_cons, List.map_nil]); first | done | rfl | (simp only [List.length_drop, List.length_take]; rfl)) ?_
    with_reducible refine (pair_Product.calls a0 a1 t841 t842 _ A45.out).mono ?_
    rintro e w48 ⟨rfl, hb⟩
    refine ⟨_, rfl, ?_⟩
    have n0_ := Aside0.mk (Kd.R_below (rr_ HO_829001) hb)
    have n1_ := kb_ BK820 hb
    have n2_ := kb_ BK821 hb
    have n3_ := kb_ BK828 hb
    have n4_ := bs_ HB hb
    clear HO_829001
    clear BK820
    clear BK821
    clear BK828
    clear HB
    have HO_829001 := n0_
    have BK820 := n1_
    have BK821 := n2_
    have BK828 := n3_
    have HB := n4_
    clear n0_ n1_ n2_ n3_ n4_
    (try clear hb)
    (try clear hb2)
    (try clear hk)
    (try clear hi)
    refine hK.out _ _ ⟨(blk_cell BK828.out 0).trans rfl, (blk_cell BK828.out 1).trans rfl, (blk_cell BK828.out 2).trans rfl⟩ (fun hHeld => ?_)
    clear hK K
    refine norm_ (a' := ?_) ?_ ?_
    rotate_left
    ·show Act.put _ (some 55) _ = _
     simp only [Act.put, List.setIfInBounds_toArray, List.set_cons_zero, List.set_cons_succ, i64_w, i32_w]
     rfl
    refine one_ (i := 4) (N := some 57) #[true, true, true, true, true, false] rfl rfl (by kernel_rfl) (by decide) (fun K hK => ?_)
    refine goes_ Try.func52 (by kernel_rfl) rfl #[.agg #[.float .f64 t841, .float .f64 t842], .agg #[.bool t822, .slice Ao22 t823.length co22, .int .i64 t826]] (by rfl) rfl rfl (by (try simp only [List.map_toArray, List.map_cons, List.map_nil]); first | done | rfl | (simp only [List.length_drop, List.length_take]; rfl)) ?_
    with_reducible refine (l05_just.calls kj10 t841 t842 t822 _ _ t823 t826 t843 _ ?side1 ?side2 A46.out).mono ?_
    (case side1 => repeat (first | exact (Kd.R_reads' HO_829001.out).2.2 | (with_reducible first | apply cA | apply cN | apply cD)))
    (case side2 => exact (Kd.R_reads' HO_829001.out).2.1)
    rintro e w49 ⟨rfl, hb⟩
    refine ⟨_, rfl, ?_⟩
    have n0_ := Aside0.mk (Kd.R_below (rr_ HO_829001) hb)
    have n1_ := kb_ BK820 hb
    have n2_ := kb_ BK821 hb
    have n3_ := kb_ BK828 hb
    have n4_ := bs_ HB hb
    clear HO_829001
    clear BK820
    clear BK821
    clear BK828
    clear HB
    have HO_829001 := n0_
    have BK820 := n1_
    have BK821 := n2_
    have BK828 := n3_
    have HB := n4_
    clear n0_ n1_ n2_ n3_ n4_
    (try clear hb)
    (try clear hb2)
    (try clear hk)
    (try clear hi)
    refine hK.out _ _ ⟨(blk_cell BK828.out 0).trans rfl, (blk_cell BK828.out 1).trans rfl, (blk_cell BK828.out 2).trans rfl⟩ (fun hHeld => ?_)
    clear hK K
    refine norm_ (a' := ?_) ?_ ?_
    rotate_left
    ·show Act.put _ (some 57) _ = _
     simp only [Act.put, List.setIfInBounds_toArray, List.set_cons_zero, List.set_cons_succ, i64_w, i32_w]
     rfl
    refine pure_ (i := 5) (N := some 8) (v := ?_) (a' := ?_) #[true, true, true, true, true, true] rfl rfl (by kernel_rfl) (fun _ _ _ h => h) (Or.inl ⟨by rfl, ?_⟩) ?_ ?_
    rotate_left
    ·intro w'
     go_simp
     with_reducible rfl
    rotate_left
    ·simp only [Act.put, List.setIfInBounds_toArray, List.set_cons_zero, List.set_cons_succ, i64_w, i32_w]
     rfl
    refine done_ (by kernel_rfl) ?_
    try go_wp2
    go_ret
    exact ⟨by first | rfl | (simp [errW_none, errW_some] <;> rfl) | (simp [*, errW_none, errW_some] <;> rfl), bl_ HB⟩

end Go.Proofs.Ytdemanikmaafeaa.Pr
-- written by this session's own program (wip/fprint.py), which widens the kit's print by floats
namespace Go.Proofs.Ytdemanikmaafeaa.Pr
open Go.RowKit Go.Proofs.YtdemanikmaafeaaW.PrintWords Go.Proofs.YtdemanikmaafeaaW.PrintLast Go.Proofs.YtdemanikmaafeaaW.PrintMore
attribute [local go_sem] max2_int min2_int max_two min_two max_three min_three max_four min_four   -- for this text's walks alone
set_option linter.unusedVariables false
set_option linter.unusedSimpArgs false

/-! ### l05_PairExact: function 5 -/
def l05_PairExact.j0 : Nat → Nat → Nat → Bool → Bool → Bool → List Int → Int → Bool → List Int → Int → Option (Bool)
 | 0, _, _, _, _, _, _, _, _, _, _ => none
 | k + 1, x0, x1, x5, x33, x852000, x852001, x852002, x859000, x859001, x859002 => if x33 = true then (some x5) else ((l05_sums.f k x0 x1 x852000 x852001 x852002 x859000 x859001 x859002).bind fun t859 => ((l05_halved.f k x0 x852000 x852001 x852002).bind fun t860 => ((l05_products.f k x0 x1 x852000 x852001 x852002 x859000 x859001 x859002).bind fun t861 => (if t859 = true then (if t860 = true then (some t861) else (none)) else (none)))))
def l05_PairExact.f (k : Nat) (a0 : Nat) (a1 : Nat) : Option (Bool) := (l05_awake.f).bind fun t844 => ((l05_finite.f k a0).bind fun bt845 => ((l05_finite.f k a1).bind fun bt852 => (if t844 = true then (if bt845.2.2.2 = true then (l05_PairExact.j0 k a0 a1 t844 (!bt852.2.2.2) bt845.1 bt845.2.1 bt845.2.2.1 bt852.1 bt852.2.1 bt852.2.2.1) else (l05_PairExact.j0 k a0 a1 t844 true bt845.1 bt845.2.1 bt845.2.2.1 bt852.1 bt852.2.1 bt852.2.2.1)) else (l05_PairExact.j0 k a0 a1 t844 true bt845.1 bt845.2.1 bt845.2.2.1 bt852.1 bt852.2.1 bt852.2.2.1))))
theorem l05_PairExact.mono_l : ∀ k, (∀ y0 y1 y2 y3 y4 y5 y6 y7 y8 y9, LeO (l05_PairExact.j0 k y0 y1 y2 y3 y4 y5 y6 y7 y8 y9) (l05_PairExact.j0 (k + 1) y0 y1 y2 y3 y4 y5 y6 y7 y8 y9))
 | 0 => fun _ _ _ _ _ _ _ _ _ _ r h => by simp [l05_PairExact.j0] at h
 | k + 1 => by
  have ih0 := l05_PairExact.mono_l k
  ·intro y0 y1 y2 y3 y4 y5 y6 y7 y8 y9
   unfold l05_PairExact.j0
   repeat' first
   | (with_reducible exact ih0 _ _ _ _ _ _ _ _ _ _)
   | (with_reducible exact l05_finite.mono _ _)
   | (with_reducible exact l05_halved.mono _ _ _ _ _)
   | (with_reducible exact l05_products.mono _ _ _ _ _ _ _ _ _)
   | (with_reducible exact l05_sums.mono _ _ _ _ _ _ _ _ _)
   | (with_reducible exact LeO.refl _)
   | (with_reducible exact LeO.none _)
   | (with_reducible refine LeO.ite ?_ ?_)
   | (with_reducible refine LeO.bind ?_ (fun _ => ?_))
   | exact ih0 _ _ _ _ _ _ _ _ _ _
   | exact l05_finite.mono _ _
   | exact l05_halved.mono _ _ _ _ _
   | exact l05_products.mono _ _ _ _ _ _ _ _ _
   | exact l05_sums.mono _ _ _ _ _ _ _ _ _
   | exact LeO.none _
   | refine LeO.ite ?_ ?_
   | refine LeO.bind ?_ (fun _ => ?_)
theorem l05_PairExact.mono : ∀ a0 a1 k, LeO (l05_PairExact.f k a0 a1) (l05_PairExact.f (k + 1) a0 a1) := by
 intro a0 a1 k
 have ih0 := l05_PairExact.mono_l k
 unfold l05_PairExact.f
 repeat' first
   | (with_reducible exact ih0 _ _ _ _ _ _ _ _ _ _)
   | (with_reducible exact l05_finite.mono _ _)
   | (with_reducible exact l05_halved.mono _ _ _ _ _)
   | (with_reducible exact l05_products.mono _ _ _ _ _ _ _ _ _)
   | (with_reducible exact l05_sums.mono _ _ _ _ _ _ _ _ _)
   | (with_reducible exact LeO.refl _)
   | (with_reducible exact LeO.none _)
   | (with_reducible refine LeO.ite ?_ ?_)
   | (with_reducible refine LeO.bind ?_ (fun _ => ?_))
   | exact ih0 _ _ _ _ _ _ _ _ _ _
   | exact l05_finite.mono _ _
   | exact l05_halved.mono _ _ _ _ _
   | exact l05_products.mono _ _ _ _ _ _ _ _ _
   | exact l05_sums.mono _ _ _ _ _ _ _ _ _
   | exact LeO.none _
   | refine LeO.ite ?_ ?_
   | refine LeO.bind ?_ (fun _ => ?_)
set_option maxHeartbeats 3000000 in
set_option maxRecDepth 100000 in
theorem l05_PairExact.calls (k : Nat) (a0 : Nat) (a1 : Nat) (r : Bool) (w : World) (h : l05_PairExact.f k a0 a1 = some r) :
  Calls Try.prog 5 #[.float .f64 a0, .float .f64 a1] w fun e w' => e = .returned (.bool r) ∧ Below w.heap.size w w' := by
 have hu43 := Try.underlying43
 have HB := Aside0.mk (Below.refl w.heap.size w)
 have H : ((l05_awake.f).bind fun t844 => ((l05_finite.f k a0).bind fun bt845 => ((l05_finite.f k a1).bind fun bt852 => (if t844 = true then (if bt845.2.2.2 = true then (l05_PairExact.j0 k a0 a1 t844 (!bt852.2.2.2) bt845.1 bt845.2.1 bt845.2.2.1 bt852.1 bt852.2.1 bt852.2.2.1) else (l05_PairExact.j0 k a0 a1 t844 true bt845.1 bt845.2.1 bt845.2.2.1 bt852.1 bt852.2.1 bt852.2.2.1)) else (l05_PairExact.j0 k a0 a1 t844 true bt845.1 bt845.2.1 bt845.2.2.1 bt852.1 bt852.2.1 bt852.2.2.1))))) = some r := h
 clear h
 obtain ⟨t844, A3, H⟩ := ob_ H
 try dsimp only at H
 obtain ⟨⟨t845, t846, t849, t850⟩, A4, H⟩ := ob_ H
 try dsimp only at H
 obtain ⟨⟨t852, t853, t856, t857⟩, A5, H⟩ := ob_ H
 try dsimp only at H
 have HC6 := Aside0.mk H
 clear H
 go_enter Try.func5, Try.ntmps5
 go_upto_region 4 with (first | ((with_reducible refine gate_callee (f := 7) rfl ?_); refine goesM (some 13) Try.func7 #[] ?_; (with_reducible refine (l05_awake.calls  t844 _ A3.out).mono ?_); rintro e w7 ⟨rfl, hb⟩; refine ⟨_, rfl, ?_⟩; have n0_ := bs_ HB hb; clear HB; have HB := n0_; clear n0_; (try clear hb); (try clear hb2); (try clear hk); (try clear hi)) | ((with_reducible refine gate_callee (f := 29) rfl ?_); refine goesM (some 16) Try.func29 #[.float .f64 a0] ?_; (with_reducible refine (l05_finite.calls k a0 t845 t846 t849 t850 _ A4.out).mono ?_); rintro e w8 ⟨v847, rfl, ho0, hb⟩; refine ⟨_, rfl, ?_⟩; have n0_ := Aside0.mk (Kd.R_lower ho0 (below_size (bl_ HB))); have n1_ := bs_ HB hb; clear HB; have HO848 := n0_; have HB := n1_; clear n0_ n1_; (try clear hb); (try clear hb2); (try clear hk); (try clear hi); (try clear ho0)) | ((with_reducible refine gate_dst (N := 6) rfl ?_); refine box_event ?hg (N := 6) ?hd (cs := #[.bool false, .slice none 0 0, .int .i64 0]) (t := 43) ?hr ?_; (case hd => rfl); (case hg => rfl); (case hr => first | (go_simp; done) | (go_simp; rfl)); intro gb851 hg w9 hbox hb; have n0_ := Aside0.mk (Kd.R_below (rr_ HO848) hb); have n1_ := bs_ HB hb; have n2_ := Aside0.mk (hbox); have n3_ := ge_ HB hg; have n4_ := ge_ HB hg; clear HO848; clear HB; have HO848 := n0_; have HB := n1_; have BK851 := n2_; have GW851 := n3_; have GE851 := n4_; clear n0_ n1_ n2_ n3_ n4_; clear hb hbox hg; have hcz10_0 : w9.cell? ⟨gb851, 0, none⟩ = some (.bool false) := (blk_cell BK851.out 0).trans rfl; have hcz10_1 : w9.cell? ⟨gb851, 1, none⟩ = some (.slice none 0 0) := (blk_cell BK851.out 1).trans rfl; have hcz10_2 : w9.cell? ⟨gb851, 2, none⟩ = some (.int .i64 0) := (blk_cell BK851.out 2).trans rfl; have hfz10_0 := blk_frozen BK851.out 0; have hfz10_1 := blk_frozen BK851.out 1; have hfz10_2 := blk_frozen BK851.out 2; obtain ⟨Ao11, co11, eo11⟩ := Kd.R_slice HO848.out; subst eo11) | ((with_reducible refine gate_callee (f := 29) rfl ?_); refine goesM (some 21) Try.func29 #[.float .f64 a1] ?_; (with_reducible refine (l05_finite.calls k a1 t852 t853 t856 t857 _ A5.out).mono ?_); rintro e w12 ⟨v854, rfl, ho0, hb⟩; refine ⟨_, rfl, ?_⟩; have n0_ := Aside0.mk (Kd.R_elder' (by (with_reducible repeat (first | apply rA | apply rN | apply rD)); exact (Kd.R_mono (Kd.R_far (p := ⟨gb851, 2, none⟩) (Kd.R_far (p := ⟨gb851, 1, none⟩) (Kd.R_far (p := ⟨gb851, 0, none⟩) (Kd.R_types HO848.out BK851.out (by decide)) (fun _ hk => hk.2) (.bool t845)) (fun _ hk => hk.2) (.slice Ao11 t846.length co11)) (fun _ hk => hk.2) (.int .i64 t849)) (fun _ h_ => h_.1))) (Kd.R_base ho0) hb); have n1_ := Aside0.mk (Kd.R_lower (Kd.R_new' ho0 (Kd.R_lt (by (with_reducible repeat (first | apply rA | apply rN | apply rD)); exact (Kd.R_mono (Kd.R_far (p := ⟨gb851, 2, none⟩) (Kd.R_far (p := ⟨gb851, 1, none⟩) (Kd.R_far (p := ⟨gb851, 0, none⟩) (Kd.R_types HO848.out BK851.out (by decide)) (fun _ hk => hk.2) (.bool t845)) (fun _ hk => hk.2) (.slice Ao11 t846.length co11)) (fun _ hk => hk.2) (.int .i64 t849)) (fun _ h_ => h_.1))))) (below_size (bl_ HB))); have n2_ := Aside0.mk (blk_below (g := gb851) (o := .cells #[.bool t845, .slice Ao11 t846.length co11, .int .i64 t849] 43 (0, 0)) (by (with_reducible repeat (first | apply bN | apply bD | apply bA)); refine blk_put (cs := #[.bool t845, .slice Ao11 t846.length co11, .int .i64 0]) ?_ 2 _ rfl; (with_reducible repeat (first | apply bN | apply bD | apply bA)); refine blk_put (cs := #[.bool t845, .slice none 0 0, .int .i64 0]) ?_ 1 _ rfl; (with_reducible repeat (first | apply bN | apply bD | apply bA)); refine blk_put (cs := #[.bool false, .slice none 0 0, .int .i64 0]) ?_ 0 _ rfl; exact bk_ BK851) hb); have n3_ := bs_ HB hb; clear HO848; clear BK851; clear HB; have HO848 := n0_; have HO855 := n1_; have BK851 := n2_; have HB := n3_; clear n0_ n1_ n2_ n3_; (try clear hb); (try clear hb2); (try clear hk); (try clear hi); (try clear ho0)) | ((with_reducible refine gate_dst (N := 8) rfl ?_); refine box_event ?hg (N := 8) ?hd (cs := #[.bool false, .slice none 0 0, .int .i64 0]) (t := 43) ?hr ?_; (case hd => rfl); (case hg => rfl); (case hr => first | (go_simp; done) | (go_simp; rfl)); intro gb858 hg w13 hbox hb; have n0_ := Aside0.mk (Kd.R_below (rr_ HO848) hb); have n1_ := Aside0.mk (Kd.R_below (rr_ HO855) hb); have n2_ := kb_ BK851 hb; have n3_ := bs_ HB hb; have n4_ := Aside0.mk (hbox); have n5_ := ge_ HB hg; have n6_ := ge_ HB hg; have n7_ := nlt_ BK851 hg; have n8_ := ngt_ BK851 hg; clear HO848; clear HO855; clear BK851; clear HB; have HO848 := n0_; have HO855 := n1_; have BK851 := n2_; have HB := n3_; have BK858 := n4_; have GW858 := n5_; have GE858 := n6_; have NB851_858 := n7_; have NB858_851 := n8_; clear n0_ n1_ n2_ n3_ n4_ n5_ n6_ n7_ n8_; clear hb hbox hg; have hnb14 := NB858_851.out; have hnc14 := NB851_858.out; have hcz15_0 : w13.cell? ⟨gb858, 0, none⟩ = some (.bool false) := (blk_cell BK858.out 0).trans rfl; have hcz15_1 : w13.cell? ⟨gb858, 1, none⟩ = some (.slice none 0 0) := (blk_cell BK858.out 1).trans rfl; have hcz15_2 : w13.cell? ⟨gb858, 2, none⟩ = some (.int .i64 0) := (blk_cell BK858.out 2).trans rfl; have hfz15_0 := blk_frozen BK858.out 0; have hfz15_1 := blk_frozen BK858.out 1; have hfz15_2 := blk_frozen BK858.out 2; obtain ⟨Ao16, co16, eo16⟩ := Kd.R_slice HO855.out; subst eo16))
 (try simp only [Act.put, List.setIfInBounds_toArray, List.set_cons_zero, List.set_cons_succ])
 go_cut [33] (fun v33 wc => ∃ (kq : Nat) (x33_5 : Bool), v33 = .bool x33_5 ∧ Aside0 (l05_PairExact.j0 kq a0 a1 t844 x33_5 t845 t846 t849 t852 t853 t856 = some r) ∧ Aside0 (kq ≤ k) ∧ Aside0 (Kd.R (Kd.int .u32) 72 wc w.heap.size (fun k_ => some k_ ≠ ((.slice Ao16 t853.length co16) : Value).ownBlock) (.slice Ao11 t846.length co11) t846) ∧ Aside0 (Kd.R (Kd.int .u32) 72 wc w.heap.size (fun k_ => some k_ ≠ ((.slice Ao11 t846.length co11) : Value).ownBlock) (.slice Ao16 t853.length co16) t853) ∧ Aside0 (wc.heap[gb851]? = some (.cells #[.bool t845, (.slice Ao11 t846.length co11), .int .i64 t849] 43 (0, 0))) ∧ Aside0 (wc.heap[gb858]? = some (.cells #[.bool t852, (.slice Ao16 t853.length co16), .int .i64 t856] 43 (0, 0))) ∧ Aside0 (Below w.heap.size w wc))
 case first =>
  have H := HC6.out
  clear HC6
  by_cases c17 : t844 = true
  ·subst c17
   have H1 : (if t850 = true then (l05_PairExact.j0 k a0 a1 true (!t857) t845 t846 t849 t852 t853 t856) else (l05_PairExact.j0 k a0 a1 true true t845 t846 t849 t852 t853 t856)) = some r := by rw [if_pos rfl] at H; exact H
   clear H
   have H := H1
   clear H1
   by_cases c18 : t850 = true
   ·subst c18
    have H1 : (l05_PairExact.j0 k a0 a1 true (!t857) t845 t846 t849 t852 t853 t856) = some r := by rw [if_pos rfl] at H; exact H
    clear H
    have H := H1
    clear H1
    have H' := Aside0.mk H
    clear H
    go_wp2
    go_meet
    case rel => exact ⟨_, (!t857), (by first | rfl | (simp; done) | (simp [*]; done)), H', ⟨by first | omega | exact Nat.le_refl _⟩, ⟨by (with_reducible repeat (first | apply rA | apply rN | apply rD)); exact Kd.R_mono (Kd.R_far (p := ⟨gb858, 2, none⟩) (Kd.R_far (p := ⟨gb858, 1, none⟩) (Kd.R_far (p := ⟨gb858, 0, none⟩) (Kd.R_types HO848.out BK858.out (by decide)) (fun _ hk => hk.2) (.bool t852)) (fun _ hk => hk.2) (.slice Ao16 t853.length co16)) (fun _ hk => hk.2) (.int .i64 t856)) (fun _ hk => hk.1.2)⟩, ⟨by (with_reducible repeat (first | apply rA | apply rN | apply rD)); exact Kd.R_mono (Kd.R_far (p := ⟨gb858, 2, none⟩) (Kd.R_far (p := ⟨gb858, 1, none⟩) (Kd.R_far (p := ⟨gb858, 0, none⟩) (Kd.R_types HO855.out BK858.out (by decide)) (fun _ hk => hk.2) (.bool t852)) (fun _ hk => hk.2) (.slice Ao16 t853.length co16)) (fun _ hk => hk.2) (.int .i64 t856)) (fun _ hk => hk.1.2)⟩, ⟨by (with_reducible repeat (first | apply bN | apply bD | apply bA)); refine blk_far ?_ NB851_858.out _; (with_reducible repeat (first | apply bN | apply bD | apply bA)); refine blk_far ?_ NB851_858.out _; (with_reducible repeat (first | apply bN | apply bD | apply bA)); refine blk_far ?_ NB851_858.out _; exact bk_ BK851⟩, ⟨by (with_reducible repeat (first | apply bN | apply bD | apply bA)); refine blk_put (cs := #[.bool t852, .slice Ao16 t853.length co16, .int .i64 0]) ?_ 2 _ rfl; (with_reducible repeat (first | apply bN | apply bD | apply bA)); refine blk_put (cs := #[.bool t852, .slice none 0 0, .int .i64 0]) ?_ 1 _ rfl; (with_reducible repeat (first | apply bN | apply bD | apply bA)); refine blk_put (cs := #[.bool false, .slice none 0 0, .int .i64 0]) ?_ 0 _ rfl; exact bk_ BK858⟩, ⟨bl_ HB⟩⟩
   ·replace c18 := Bool.eq_false_iff.mpr c18
    subst c18
    have H1 : (l05_PairExact.j0 k a0 a1 true true t845 t846 t849 t852 t853 t856) = some r := by rw [if_neg (show ¬ (false = true) by decide)] at H; exact H
    clear H
    have H := H1
    clear H1
    have H' := Aside0.mk H
    clear H
    go_wp2
    go_meet
    case rel => exact ⟨_, (true), (by first | rfl | (simp; done) | (simp [*]; done)), H', ⟨by first | omega | exact Nat.le_refl _⟩, ⟨by (with_reducible repeat (first | apply rA | apply rN | apply rD)); exact Kd.R_mono (Kd.R_far (p := ⟨gb858, 2, none⟩) (Kd.R_far (p := ⟨gb858, 1, none⟩) (Kd.R_far (p := ⟨gb858, 0, none⟩) (Kd.R_types HO848.out BK858.out (by decide)) (fun _ hk => hk.2) (.bool t852)) (fun _ hk => hk.2) (.slice Ao16 t853.length co16)) (fun _ hk => hk.2) (.int .i64 t856)) (fun _ hk => hk.1.2)⟩, ⟨by (with_reducible repeat (first | apply rA | apply rN | apply rD)); exact Kd.R_mono (Kd.R_far (p := ⟨gb858, 2, none⟩) (Kd.R_far (p := ⟨gb858, 1, none⟩) (Kd.R_far (p := ⟨gb858, 0, none⟩) (Kd.R_types HO855.out BK858.out (by decide)) (fun _ hk => hk.2) (.bool t852)) (fun _ hk => hk.2) (.slice Ao16 t853.length co16)) (fun _ hk => hk.2) (.int .i64 t856)) (fun _ hk => hk.1.2)⟩, ⟨by (with_reducible repeat (first | apply bN | apply bD | apply bA)); refine blk_far ?_ NB851_858.out _; (with_reducible repeat (first | apply bN | apply bD | apply bA)); refine blk_far ?_ NB851_858.out _; (with_reducible repeat (first | apply bN | apply bD | apply bA)); refine blk_far ?_ NB851_858.out _; exact bk_ BK851⟩, ⟨by (with_reducible repeat (first | apply bN | apply bD | apply bA)); refine blk_put (cs := #[.bool t852, .slice Ao16 t853.length co16, .int .i64 0]) ?_ 2 _ rfl; (with_reducible repeat (first | apply bN | apply bD | apply bA)); refine blk_put (cs := #[.bool t852, .slice none 0 0, .int .i64 0]) ?_ 1 _ rfl; (with_reducible repeat (first | apply bN | apply bD | apply bA)); refine blk_put (cs := #[.bool false, .slice none 0 0, .int .i64 0]) ?_ 0 _ rfl; exact bk_ BK858⟩, ⟨bl_ HB⟩⟩
  ·replace c17 := Bool.eq_false_iff.mpr c17
   subst c17
   have H1 : (l05_PairExact.j0 k a0 a1 false true t845 t846 t849 t852 t853 t856) = some r := by rw [if_neg (show ¬ (false = true) by decide)] at H; exact H
   clear H
   have H := H1
   clear H1
   have H' := Aside0.mk H
   clear H
   go_wp2
   go_meet
   case rel => exact ⟨_, (true), (by first | rfl | (simp; done) | (simp [*]; done)), H', ⟨by first | omega | exact Nat.le_refl _⟩, ⟨by (with_reducible repeat (first | apply rA | apply rN | apply rD)); exact Kd.R_mono (Kd.R_far (p := ⟨gb858, 2, none⟩) (Kd.R_far (p := ⟨gb858, 1, none⟩) (Kd.R_far (p := ⟨gb858, 0, none⟩) (Kd.R_types HO848.out BK858.out (by decide)) (fun _ hk => hk.2) (.bool t852)) (fun _ hk => hk.2) (.slice Ao16 t853.length co16)) (fun _ hk => hk.2) (.int .i64 t856)) (fun _ hk => hk.1.2)⟩, ⟨by (with_reducible repeat (first | apply rA | apply rN | apply rD)); exact Kd.R_mono (Kd.R_far (p := ⟨gb858, 2, none⟩) (Kd.R_far (p := ⟨gb858, 1, none⟩) (Kd.R_far (p := ⟨gb858, 0, none⟩) (Kd.R_types HO855.out BK858.out (by decide)) (fun _ hk => hk.2) (.bool t852)) (fun _ hk => hk.2) (.slice Ao16 t853.length co16)) (fun _ hk => hk.2) (.int .i64 t856)) (fun _ hk => hk.1.2)⟩, ⟨by (with_reducible repeat (first | apply bN | apply bD | apply bA)); refine blk_far ?_ NB851_858.out _; (with_reducible repeat (first | apply bN | apply bD | apply bA)); refine blk_far ?_ NB851_858.out _; (with_reducible repeat (first | apply bN | apply bD | apply bA)); refine blk_far ?_ NB851_858.out _; exact bk_ BK851⟩, ⟨by (with_reducible repeat (first | apply bN | apply bD | apply bA)); refine blk_put (cs := #[.bool t852, .slice Ao16 t853.length co16, .int .i64 0]) ?_ 2 _ rfl; (with_reducible repeat (first | apply bN | apply bD | apply bA)); refine blk_put (cs := #[.bool t852, .slice none 0 0, .int .i64 0]) ?_ 1 _ rfl; (with_reducible repeat (first | apply bN | apply bD | apply bA)); refine blk_put (cs := #[.bool false, .slice none 0 0, .int .i64 0]) ?_ 0 _ rfl; exact bk_ BK858⟩, ⟨bl_ HB⟩⟩
 case rest =>
  clear HC6
  try clear c1
  try clear c2
  try clear p2
  try clear c5
  try clear c7
  try clear c14
  try clear c17
  try clear c18
  try clear hcz10_0
  try clear hcz10_1
  try clear hcz10_2
  try clear hcz15_0
  try clear hcz15_1
  try clear hcz15_2
  try clear hfz10_0
  try clear hfz10_1
  try clear hfz10_2
  try clear hfz15_0
  try clear hfz15_1
  try clear hfz15_2
  obtain ⟨kq, x33_5, rfl, HA, HJ5, HO_852001, HO_859001, BK851, BK858, HB⟩ := hcut
  cases kq with
  | zero => exact absurd HA.out (by simp [l05_PairExact.j0])
  | succ kj5 =>
   have H := HA.out
   clear HA
   simp only [l05_PairExact.j0] at H
   by_cases c19 : x33_5 = true
   ·subst c19
    have H1 : (some t844) = some r := by rw [if_pos rfl] at H; exact H
    clear H
    have H := H1
    clear H1
    obtain rfl := Option.some.inj H
    go_wp2
    go_ret
    exact ⟨by first | rfl | (simp [errW_none, errW_some] <;> rfl) | (simp [*, errW_none, errW_some] <;> rfl), bl_ HB⟩
   ·replace c19 := Bool.eq_false_iff.mpr c19
    subst c19
    have H1 : ((l05_sums.f kj5 a0 a1 t845 t846 t849 t852 t853 t856).bind fun t859 => ((l05_halved.f kj5 a0 t845 t846 t849).bind fun t860 => ((l05_products.f kj5 a0 a1 t845 t846 t849 t852 t853 t856).bind fun t861 => (if t859 = true then (if t860 = true then (some t861) else (none)) else (none))))) = some r := by rw [if_neg (show ¬ (false = true) by decide)] at H; exact H
    clear H
    have H := H1
    clear H1
    obtain ⟨t859, A20, H⟩ := ob_ H
    try dsimp only at H
    obtain ⟨t860, A21, H⟩ := ob_ H
    try dsimp only at H
    obtain ⟨t861, A22, H⟩ := ob_ H
    try dsimp only at H
    by_cases c23 : t859 = true
    ·subst c23
     have H1 : (if t860 = true then (some t861) else (none)) = some r := by rw [if_pos rfl] at H; exact H
     clear H
     have H := H1
     clear H1
     by_cases c24 : t860 = true
     ·subst c24
      have H1 : (some t861) = some r := by rw [if_pos rfl] at H; exact H
      clear H
      have H := H1
      clear H1
      obtain rfl := Option.some.inj H
      have hnb25 := NB851_858.out
      have hnc25 := NB858_851.out
      have hcz26_0 : wc.cell? ⟨gb851, 0, none⟩ = some (.bool t845) := (blk_cell BK851.out 0).trans rfl
      have hcz26_1 : wc.cell? ⟨gb851, 1, none⟩ = some (.slice Ao11 t846.length co11) := (blk_cell BK851.out 1).trans rfl
      have hcz26_2 : wc.cell? ⟨gb851, 2, none⟩ = some (.int .i64 t849) := (blk_cell BK851.out 2).trans rfl
      have hfz26_0 := blk_frozen BK851.out 0
      have hfz26_1 := blk_frozen BK851.out 1
      have hfz26_2 := blk_frozen BK851.out 2
      have hcz27_0 : wc.cell? ⟨gb858, 0, none⟩ = some (.bool t852) := (blk_cell BK858.out 0).trans rfl
      have hcz27_1 : wc.cell? ⟨gb858, 1, none⟩ = some (.slice Ao16 t853.length co16) := (blk_cell BK858.out 1).trans rfl
      have hcz27_2 : wc.cell? ⟨gb858, 2, none⟩ = some (.int .i64 t856) := (blk_cell BK858.out 2).trans rfl
      have hfz27_0 := blk_frozen BK858.out 0
      have hfz27_1 := blk_frozen BK858.out 1
      have hfz27_2 := blk_frozen BK858.out 2
      go_wp2_with (first | ((with_reducible refine gate_callee (f := 30) rfl ?_); refine goesM (some 39) Try.func30 #[.float .f64 a0, .float .f64 a1, .agg #[.bool t845, .slice Ao11 t846.length co11, .int .i64 t849], .agg #[.bool t852, .slice Ao16 t853.length co16, .int .i64 t856]] ?_; (with_reducible refine (l05_sums.calls kj5 a0 a1 t845 _ _ t846 t849 t852 _ _ t853 t856 true _ ?side1 ?side2 ?side3 ?side4 A20.out).mono ?_); (case side1 => repeat (first | exact (Kd.R_reads' HO_852001.out).2.2 | (with_reducible first | apply cA | apply cN | apply cD))); (case side2 => exact (Kd.R_reads' HO_852001.out).2.1); (case side3 => repeat (first | exact (Kd.R_reads' HO_859001.out).2.2 | (with_reducible first | apply cA | apply cN | apply cD))); (case side4 => exact (Kd.R_reads' HO_859001.out).2.1); rintro e w28 ⟨rfl, hb⟩; refine ⟨_, rfl, ?_⟩; have n0_ := Aside0.mk (Kd.R_below (rr_ HO_852001) hb); have n1_ := Aside0.mk (Kd.R_below (rr_ HO_859001) hb); have n2_ := kb_ BK851 hb; have n3_ := kb_ BK858 hb; have n4_ := bs_ HB hb; clear HO_852001; clear HO_859001; clear BK851; clear BK858; clear HB; have HO_852001 := n0_; have HO_859001 := n1_; have BK851 := n2_; have BK858 := n3_; have HB := n4_; clear n0_ n1_ n2_ n3_ n4_; (try clear hb); (try clear hb2); (try clear hk); (try clear hi); have hcz29_0 : w28.cell? ⟨gb851, 0, none⟩ = some (.bool t845) := (blk_cell BK851.out 0).trans rfl; have hcz29_1 : w28.cell? ⟨gb851, 1, none⟩ = some (.slice Ao11 t846.length co11) := (blk_cell BK851.out 1).trans rfl; have hcz29_2 : w28.cell? ⟨gb851, 2, none⟩ = some (.int .i64 t849) := (blk_cell BK851.out 2).trans rfl; have hfz29_0 := blk_frozen BK851.out 0; have hfz29_1 := blk_frozen BK851.out 1; have hfz29_2 := blk_frozen BK851.out 2) | ((with_reducible refine gate_callee (f := 31) rfl ?_); refine goesM (some 42) Try.func31 #[.float .f64 a0, .agg #[.bool t845, .slice Ao11 t846.length co11, .int .i64 t849]] ?_; (with_reducible refine (l05_halved.calls kj5 a0 t845 _ _ t846 t849 true _ ?side1 ?side2 A21.out).mono ?_); (case side1 => repeat (first | exact (Kd.R_reads' HO_852001.out).2.2 | (with_reducible first | apply cA | apply cN | apply cD))); (case side2 => exact (Kd.R_reads' HO_852001.out).2.1); rintro e w30 ⟨rfl, hb⟩; refine ⟨_, rfl, ?_⟩; have n0_ := Aside0.mk (Kd.R_below (rr_ HO_852001) hb); have n1_ := Aside0.mk (Kd.R_below (rr_ HO_859001) hb); have n2_ := kb_ BK851 hb; have n3_ := kb_ BK858 hb; have n4_ := bs_ HB hb; clear HO_852001; clear HO_859001; clear BK851; clear BK858; clear HB; have HO_852001 := n0_; have HO_859001 := n1_; have BK851 := n2_; have BK858 := n3_; have HB := n4_; clear n0_ n1_ n2_ n3_ n4_; (try clear hb); (try clear hb2); (try clear hk); (try clear hi); have hcz31_0 : w30.cell? ⟨gb851, 0, none⟩ = some (.bool t845) := (blk_cell BK851.out 0).trans rfl; have hcz31_1 : w30.cell? ⟨gb851, 1, none⟩ = some (.slice Ao11 t846.length co11) := (blk_cell BK851.out 1).trans rfl; have hcz31_2 : w30.cell? ⟨gb851, 2, none⟩ = some (.int .i64 t849) := (blk_cell BK851.out 2).trans rfl; have hfz31_0 := blk_frozen BK851.out 0; have hfz31_1 := blk_frozen BK851.out 1; have hfz31_2 := blk_frozen BK851.out 2; have hcz32_0 : w30.cell? ⟨gb858, 0, none⟩ = some (.bool t852) := (blk_cell BK858.out 0).trans rfl; have hcz32_1 : w30.cell? ⟨gb858, 1, none⟩ = some (.slice Ao16 t853.length co16) := (blk_cell BK858.out 1).trans rfl; have hcz32_2 : w30.cell? ⟨gb858, 2, none⟩ = some (.int .i64 t856) := (blk_cell BK858.out 2).trans rfl; have hfz32_0 := blk_frozen BK858.out 0; have hfz32_1 := blk_frozen BK858.out 1; have hfz32_2 := blk_frozen BK858.out 2) | ((with_reducible refine gate_callee (f := 32) rfl ?_); refine goesM (some 47) Try.func32 #[.float .f64 a0, .float .f64 a1, .agg #[.bool t845, .slice Ao11 t846.length co11, .int .i64 t849], .agg #[.bool t852, .slice Ao16 t853.length co16, .int .i64 t856]] ?_; (with_reducible refine (l05_products.calls kj5 a0 a1 t845 _ _ t846 t849 t852 _ _ t853 t856 t861 _ ?side1 ?side2 ?side3 ?side4 A22.out).mono ?_); (case side1 => repeat (first | exact (Kd.R_reads' HO_852001.out).2.2 | (with_reducible first | apply cA | apply cN | apply cD))); (case side2 => exact (Kd.R_reads' HO_852001.out).2.1); (case side3 => repeat (first | exact (Kd.R_reads' HO_859001.out).2.2 | (with_reducible first | apply cA | apply cN | apply cD))); (case side4 => exact (Kd.R_reads' HO_859001.out).2.1); rintro e w33 ⟨rfl, hb⟩; refine ⟨_, rfl, ?_⟩; have n0_ := Aside0.mk (Kd.R_below (rr_ HO_852001) hb); have n1_ := Aside0.mk (Kd.R_below (rr_ HO_859001) hb); have n2_ := kb_ BK851 hb; have n3_ := kb_ BK858 hb; have n4_ := bs_ HB hb; clear HO_852001; clear HO_859001; clear BK851; clear BK858; clear HB; have HO_852001 := n0_; have HO_859001 := n1_; have BK851 := n2_; have BK858 := n3_; have HB := n4_; clear n0_ n1_ n2_ n3_ n4_; (try clear hb); (try clear hb2); (try clear hk); (try clear hi)))
      go_ret
      exact ⟨by first | rfl | (simp [errW_none, errW_some] <;> rfl) | (simp [*, errW_none, errW_some] <;> rfl), bl_ HB⟩
     ·replace c24 := Bool.eq_false_iff.mpr c24
      subst c24
      have H1 : (none) = some r := by rw [if_neg (show ¬ (false = true) by decide)] at H; exact H
      clear H
      have H := H1
      clear H1
      exact absurd H (by simp)
    ·replace c23 := Bool.eq_false_iff.mpr c23
     subst c23
     have H1 : (none) = some r := by rw [if_neg (show ¬ (false = true) by decide)] at H; exact H
     clear H
     have H := H1
     clear H1
     exact absurd H (by simp)

/-- THE ONE PURE STATEMENT of l05_PairExact: yours. -/
def l05_PairExact.Pure : Prop := ∀ (a0 : Nat) (a1 : Nat), (Lit.float .f64 a0).wf = true → (Lit.float .f64 a1).wf = true → ∃ k, l05_PairExact.f k a0 a1 = some true

end Go.Proofs.Ytdemanikmaafeaa.Pr
