-- short
-- written by this session's own program (wip/fprint.py), which widens the kit's print by floats
import Derived.Test.YtdemanikmaafeaaPr0
import Derived.Test.YtdemanikmaafeaaPr8
import Derived.Test.YtdemanikmaafeaaPr9
import Derived.Test.YtdemanikmaafeaaPr11
import Derived.Test.YtdemanikmaafeaaPr13
import Derived.Test.YtdemanikmaafeaaPr14
namespace Go.Proofs.Ytdemanikmaafeaa.Pr
open Go.RowKit Go.Proofs.YtdemanikmaafeaaW.PrintWords Go.Proofs.YtdemanikmaafeaaW.PrintLast Go.Proofs.YtdemanikmaafeaaW.PrintMore
attribute [local go_sem] max2_int min2_int max_two min_two max_three min_three max_four min_four   -- for this text's walks alone
set_option linter.unusedVariables false
set_option linter.unusedSimpArgs false

/-! ### steelyardref03_Add: function 35 -/
mutual
def steelyardref03_Add.j0 : Nat → Bool → Bool → List Int → Int → Bool → List Int → Int → Option (Bool × List Int × Int × Int)
 | 0, _, _, _, _, _, _, _ => none
 | k + 1, x28, x370000, x370001, x370002, x377000, x377001, x377002 => if x28 = true then (some (false, ([] : List Int), 0, 2)) else (if (x370001.length : Int) = 0 then (some (x377000, x377001, x377002, 0)) else (if (x377001.length : Int) = 0 then (some (x370000, x370001, x370002, 0)) else ((steelyardref02_Moved.f k x370001 (wrap64 (x370002 - (mn x370002 x377002)))).bind fun t377 => ((steelyardref02_Moved.f k x377001 (wrap64 (x377002 - (mn x370002 x377002)))).bind fun t380 => (if (t377.length : Int) > 8192 then (steelyardref03_Add.j1 k (mn x370002 x377002) t377 t380 true x370000 x370001 x370002 x377000 x377001 x377002) else (steelyardref03_Add.j1 k (mn x370002 x377002) t377 t380 (decide ((t380.length : Int) > 8192)) x370000 x370001 x370002 x377000 x377001 x377002))))))
def steelyardref03_Add.j1 : Nat → Int → List Int → List Int → Bool → Bool → List Int → Int → Bool → List Int → Int → Option (Bool × List Int × Int × Int)
 | 0, _, _, _, _, _, _, _, _, _, _ => none
 | k + 1, x10, x11, x12, x66, x370000, x370001, x370002, x377000, x377001, x377002 => if x66 = true then (some (false, ([] : List Int), 0, 2)) else (if (x370000 == x377000) = true then ((steelyardref02_Plus.f k x11 x12).bind fun t383 => ((steelyardref03_told.f k x370000 t383 x10).bind fun bt386 => (some (bt386.1, bt386.2.1, bt386.2.2.1, bt386.2.2.2)))) else ((steelyardref02_Cmp.f k x11 x12).bind fun t392 => (if t392 ≥ 0 then ((steelyardref02_Minus.f k x11 x12).bind fun t393 => ((steelyardref03_told.f k x370000 t393 x10).bind fun bt396 => (some (bt396.1, bt396.2.1, bt396.2.2.1, bt396.2.2.2)))) else ((steelyardref02_Minus.f k x12 x11).bind fun t402 => ((steelyardref03_told.f k x377000 t402 x10).bind fun bt405 => (some (bt405.1, bt405.2.1, bt405.2.2.1, bt405.2.2.2)))))))
end
def steelyardref03_Add.f (k : Nat) (a0_0 : Bool) (l0_1 : List Int) (a0_2 : Int) (a1_0 : Bool) (l1_1 : List Int) (a1_2 : Int) : Option (Bool × List Int × Int × Int) := (steelyardref03_Made.f k a0_0 l0_1 a0_2).bind fun bt363 => ((steelyardref03_Made.f k a1_0 l1_1 a1_2).bind fun bt370 => (if bt363.2.2.2 = true then (steelyardref03_Add.j0 k (!bt370.2.2.2) bt363.1 bt363.2.1 bt363.2.2.1 bt370.1 bt370.2.1 bt370.2.2.1) else (steelyardref03_Add.j0 k true bt363.1 bt363.2.1 bt363.2.2.1 bt370.1 bt370.2.1 bt370.2.2.1)))
theorem steelyardref03_Add.mono_l : ∀ k, (∀ y0 y1 y2 y3 y4 y5 y6, LeO (steelyardref03_Add.j0 k y0 y1 y2 y3 y4 y5 y6) (steelyardref03_Add.j0 (k + 1) y0 y1 y2 y3 y4 y5 y6)) ∧ (∀ y0 y1 y2 y3 y4 y5 y6 y7 y8 y9, LeO (steelyardref03_Add.j1 k y0 y1 y2 y3 y4 y5 y6 y7 y8 y9) (steelyardref03_Add.j1 (k + 1) y0 y1 y2 y3 y4 y5 y6 y7 y8 y9))
 | 0 => ⟨fun _ _ _ _ _ _ _ r h => by simp [steelyardref03_Add.j0] at h, fun _ _ _ _ _ _ _ _ _ _ r h => by simp [steelyardref03_Add.j1] at h⟩
 | k + 1 => by
  obtain ⟨ih0, ih1⟩ := steelyardref03_Add.mono_l k
  refine ⟨?_, ?_⟩
  ·intro y0 y1 y2 y3 y4 y5 y6
   unfold steelyardref03_Add.j0
   repeat' first
   | (with_reducible exact ih0 _ _ _ _ _ _ _)
   | (with_reducible exact ih1 _ _ _ _ _ _ _ _ _ _)
   | (with_reducible exact steelyardref02_Cmp.mono _ _ _)
   | (with_reducible exact steelyardref02_Minus.mono _ _ _)
   | (with_reducible exact steelyardref02_Moved.mono _ _ _)
   | (with_reducible exact steelyardref02_Plus.mono _ _ _)
   | (with_reducible exact steelyardref03_Made.mono _ _ _ _)
   | (with_reducible exact steelyardref03_told.mono _ _ _ _)
   | (with_reducible exact LeO.refl _)
   | (with_reducible exact LeO.none _)
   | (with_reducible refine LeO.ite ?_ ?_)
   | (with_reducible refine LeO.bind ?_ (fun _ => ?_))
   | exact ih0 _ _ _ _ _ _ _
   | exact ih1 _ _ _ _ _ _ _ _ _ _
   | exact steelyardref02_Cmp.mono _ _ _
   | exact steelyardref02_Minus.mono _ _ _
   | exact steelyardref02_Moved.mono _ _ _
   | exact steelyardref02_Plus.mono _ _ _
   | exact steelyardref03_Made.mono _ _ _ _
   | exact steelyardref03_told.mono _ _ _ _
   | exact LeO.none _
   | refine LeO.ite ?_ ?_
   | refine LeO.bind ?_ (fun _ => ?_)
  ·intro y0 y1 y2 y3 y4 y5 y6 y7 y8 y9
   unfold steelyardref03_Add.j1
   repeat' first
   | (with_reducible exact ih0 _ _ _ _ _ _ _)
   | (with_reducible exact ih1 _ _ _ _ _ _ _ _ _ _)
   | (with_reducible exact steelyardref02_Cmp.mono _ _ _)
   | (with_reducible exact steelyardref02_Minus.mono _ _ _)
   | (with_reducible exact steelyardref02_Moved.mono _ _ _)
   | (with_reducible exact steelyardref02_Plus.mono _ _ _)
   | (with_reducible exact steelyardref03_Made.mono _ _ _ _)
   | (with_reducible exact steelyardref03_told.mono _ _ _ _)
   | (with_reducible exact LeO.refl _)
   | (with_reducible exact LeO.none _)
   | (with_reducible refine LeO.ite ?_ ?_)
   | (with_reducible refine LeO.bind ?_ (fun _ => ?_))
   | exact ih0 _ _ _ _ _ _ _
   | exact ih1 _ _ _ _ _ _ _ _ _ _
   | exact steelyardref02_Cmp.mono _ _ _
   | exact steelyardref02_Minus.mono _ _ _
   | exact steelyardref02_Moved.mono _ _ _
   | exact steelyardref02_Plus.mono _ _ _
   | exact steelyardref03_Made.mono _ _ _ _
   | exact steelyardref03_told.mono _ _ _ _
   | exact LeO.none _
   | refine LeO.ite ?_ ?_
   | refine LeO.bind ?_ (fun _ => ?_)
theorem steelyardref03_Add.mono : ∀ a0 a1 a2 a3 a4 a5 k, LeO (steelyardref03_Add.f k a0 a1 a2 a3 a4 a5) (steelyardref03_Add.f (k + 1) a0 a1 a2 a3 a4 a5) := by
 intro a0 a1 a2 a3 a4 a5 k
 obtain ⟨ih0, ih1⟩ := steelyardref03_Add.mono_l k
 unfold steelyardref03_Add.f
 repeat' first
   | (with_reducible exact ih0 _ _ _ _ _ _ _)
   | (with_reducible exact ih1 _ _ _ _ _ _ _ _ _ _)
   | (with_reducible exact steelyardref02_Cmp.mono _ _ _)
   | (with_reducible exact steelyardref02_Minus.mono _ _ _)
   | (with_reducible exact steelyardref02_Moved.mono _ _ _)
   | (with_reducible exact steelyardref02_Plus.mono _ _ _)
   | (with_reducible exact steelyardref03_Made.mono _ _ _ _)
   | (with_reducible exact steelyardref03_told.mono _ _ _ _)
   | (with_reducible exact LeO.refl _)
   | (with_reducible exact LeO.none _)
   | (with_reducible refine LeO.ite ?_ ?_)
   | (with_reducible refine LeO.bind ?_ (fun _ => ?_))
   | exact ih0 _ _ _ _ _ _ _
   | exact ih1 _ _ _ _ _ _ _ _ _ _
   | exact steelyardref02_Cmp.mono _ _ _
   | exact steelyardref02_Minus.mono _ _ _
   | exact steelyardref02_Moved.mono _ _ _
   | exact steelyardref02_Plus.mono _ _ _
   | exact steelyardref03_Made.mono _ _ _ _
   | exact steelyardref03_told.mono _ _ _ _
   | exact LeO.none _
   | refine LeO.ite ?_ ?_
   | refine LeO.bind ?_ (fun _ => ?_)
def steelyardref03_Add.T15 : Bool × List (List Nat × List Nat) := (true, [([], []), ([0], [0]), ([], []), ([], []), ([2, 3], [2, 3]), ([], []), ([1, 4, 5, 4], [1, 4, 5]), ([6], [6]), ([6], [6]), ([7, 6, 0, 1, 2, 3, 4, 5, 6, 7, 8], [7]), ([8, 9, 0, 1, 2, 3, 4, 5, 6, 7, 8, 9], [8])])
def steelyardref03_Add.B15 : List Nat := [0, 1, 0, 0, 12, 0, 63, 127, 127, 511, 1023]
theorem steelyardref03_Add.tab15 : rtab .any (opsOf Try.f35 15) = steelyardref03_Add.T15 := by kernel_rfl
theorem steelyardref03_Add.bits15 : waitsOk steelyardref03_Add.T15.2 steelyardref03_Add.B15 = true := by kernel_rfl
def steelyardref03_Add.T17 : Bool × List (List Nat × List Nat) := (true, [([], []), ([0], [0]), ([], []), ([], []), ([2, 3], [2, 3]), ([], []), ([1, 4, 5, 4], [1, 4, 5]), ([6], [6]), ([6], [6]), ([7, 6, 0, 1, 2, 3, 4, 5, 6, 7, 8], [7]), ([8, 9, 0, 1, 2, 3, 4, 5, 6, 7, 8, 9], [8])])
def steelyardref03_Add.B17 : List Nat := [0, 1, 0, 0, 12, 0, 63, 127, 127, 511, 1023]
theorem steelyardref03_Add.tab17 : rtab .any (opsOf Try.f35 17) = steelyardref03_Add.T17 := by kernel_rfl
theorem steelyardref03_Add.bits17 : waitsOk steelyardref03_Add.T17.2 steelyardref03_Add.B17 = true := by kernel_rfl
def steelyardref03_Add.T18 : Bool × List (List Nat × List Nat) := (true, [([], []), ([0], [0]), ([], []), ([], []), ([2, 3], [2, 3]), ([], []), ([1, 4, 5, 4], [1, 4, 5]), ([6], [6]), ([6], [6]), ([7, 6, 0, 1, 2, 3, 4, 5, 6, 7, 8], [7]), ([8, 9, 0, 1, 2, 3, 4, 5, 6, 7, 8, 9], [8])])
def steelyardref03_Add.B18 : List Nat := [0, 1, 0, 0, 12, 0, 63, 127, 127, 511, 1023]
theorem steelyardref03_Add.tab18 : rtab .any (opsOf Try.f35 18) = steelyardref03_Add.T18 := by kernel_rfl
theorem steelyardref03_Add.bits18 : waitsOk steelyardref03_Add.T18.2 steelyardref03_Add.B18 = true := by kernel_rfl
set_option maxHeartbeats 3000000 in
set_option maxRecDepth 100000 in
theorem steelyardref03_Add.calls (k : Nat) (a0_0 : Bool) (A0_1 : Option Addr) (c0_1 : Nat) (l0_1 : List Int) (a0_2 : Int) (a1_0 : Bool) (A1_1 : Option Addr) (c1_1 : Nat) (l1_1 : List Int) (a1_2 : Int) (r1 : Bool) (r2 : List Int) (r3 : Int) (r4 : Int) (w : World) (hr0_1 : Kd.C (Kd.int .u32) w A0_1 l0_1.length l0_1) (hc0_1 : l0_1.length ≤ c0_1) (hr1_1 : Kd.C (Kd.int .u32) w A1_1 l1_1.length l1_1) (hc1_1 : l1_1.length ≤ c1_1) (h : steelyardref03_Add.f k a0_0 l0_1 a0_2 a1_0 l1_1 a1_2 = some (r1, r2, r3, r4)) :
  Calls Try.prog 35 #[.agg #[.bool a0_0, .slice A0_1 l0_1.length c0_1, .int .i64 a0_2], .agg #[.bool a1_0, .slice A1_1 l1_1.length c1_1, .int .i64 a1_2]] w fun e w' => ∃ v1_ : Value, e = .returned (.tuple #[.agg #[.bool r1, v1_, .int .i64 r3], .int .i64 r4]) ∧ Kd.R (Kd.int .u32) 72 w' w.heap.size (fun _ => True) v1_ r2 ∧ Below w.heap.size w w' := by
 have hu43 := Try.underlying43
 have HR0_1 := Aside0.mk hr0_1
 have HC0_1 := Aside0.mk hc0_1
 clear hr0_1 hc0_1
 have HR1_1 := Aside0.mk hr1_1
 have HC1_1 := Aside0.mk hc1_1
 clear hr1_1 hc1_1
 have HB := Aside0.mk (Below.refl w.heap.size w)
 have H : ((steelyardref03_Made.f k a0_0 l0_1 a0_2).bind fun bt363 => ((steelyardref03_Made.f k a1_0 l1_1 a1_2).bind fun bt370 => (if bt363.2.2.2 = true then (steelyardref03_Add.j0 k (!bt370.2.2.2) bt363.1 bt363.2.1 bt363.2.2.1 bt370.1 bt370.2.1 bt370.2.2.1) else (steelyardref03_Add.j0 k true bt363.1 bt363.2.1 bt363.2.2.1 bt370.1 bt370.2.1 bt370.2.2.1)))) = some (r1, r2, r3, r4) := h
 clear h
 obtain ⟨⟨t363, t364, t367, t368⟩, A3, H⟩ := ob_ H
 try dsimp only at H
 obtain ⟨⟨t370, t371, t374, t375⟩, A4, H⟩ := ob_ H
 try dsimp only at H
 have HC5 := Aside0.mk H
 clear H
 go_enter Try.func35, Try.ntmps35
 go_upto_region 3 with (first | ((with_reducible refine gate_dst (N := 2) rfl ?_); (try (refine gate_guard (by rfl) ?_; dsimp only)); refine box_event ?hg (N := 2) ?hd (cs := #[.bool a0_0, .slice A0_1 l0_1.length c0_1, .int .i64 a0_2]) (t := 43) ?hr ?_; (case hd => rfl); (case hg => rfl); (case hr => first | (go_simp; done) | (go_simp; rfl)); intro gb360 hg w6 hbox hb; have n0_ := bs_ HB hb; have n1_ := Aside0.mk (hbox); have n2_ := ge_ HB hg; have n3_ := ge_ HB hg; clear HB; have HB := n0_; have BK360 := n1_; have GW360 := n2_; have GE360 := n3_; clear n0_ n1_ n2_ n3_; clear hb hbox hg) | ((with_reducible refine gate_dst (N := 3) rfl ?_); (try (refine gate_guard (by rfl) ?_; dsimp only)); refine box_event ?hg (N := 3) ?hd (cs := #[.bool a1_0, .slice A1_1 l1_1.length c1_1, .int .i64 a1_2]) (t := 43) ?hr ?_; (case hd => rfl); (case hg => rfl); (case hr => first | (go_simp; done) | (go_simp; rfl)); intro gb361 hg w7 hbox hb; have n0_ := kb_ BK360 hb; have n1_ := bs_ HB hb; have n2_ := Aside0.mk (hbox); have n3_ := ge_ HB hg; have n4_ := ge_ HB hg; have n5_ := nlt_ BK360 hg; have n6_ := ngt_ BK360 hg; clear BK360; clear HB; have BK360 := n0_; have HB := n1_; have BK361 := n2_; have GW361 := n3_; have GE361 := n4_; have NB360_361 := n5_; have NB361_360 := n6_; clear n0_ n1_ n2_ n3_ n4_ n5_ n6_; clear hb hbox hg) | ((with_reducible refine gate_dst (N := 4) rfl ?_); (try (refine gate_guard (by rfl) ?_; dsimp only)); refine box_event ?hg (N := 4) ?hd (cs := #[.bool false, .slice none 0 0, .int .i64 0]) (t := 43) ?hr ?_; (case hd => rfl); (case hg => rfl); (case hr => first | (go_simp; done) | (go_simp; rfl)); intro gb362 hg w8 hbox hb; have n0_ := kb_ BK360 hb; have n1_ := kb_ BK361 hb; have n2_ := bs_ HB hb; have n3_ := Aside0.mk (hbox); have n4_ := ge_ HB hg; have n5_ := ge_ HB hg; have n6_ := nlt_ BK360 hg; have n7_ := ngt_ BK360 hg; have n8_ := nlt_ BK361 hg; have n9_ := ngt_ BK361 hg; clear BK360; clear BK361; clear HB; have BK360 := n0_; have BK361 := n1_; have HB := n2_; have BK362 := n3_; have GW362 := n4_; have GE362 := n5_; have NB360_362 := n6_; have NB362_360 := n7_; have NB361_362 := n8_; have NB362_361 := n9_; clear n0_ n1_ n2_ n3_ n4_ n5_ n6_ n7_ n8_ n9_; clear hb hbox hg; have hnb9 := NB360_361.out; have hnc9 := NB361_360.out; have hnb10 := NB360_362.out; have hnc10 := NB362_360.out; have hcz11_0 : w8.cell? ⟨gb360, 0, none⟩ = some (.bool a0_0) := (blk_cell BK360.out 0).trans rfl; have hcz11_1 : w8.cell? ⟨gb360, 1, none⟩ = some (.slice A0_1 l0_1.length c0_1) := (blk_cell BK360.out 1).trans rfl; have hcz11_2 : w8.cell? ⟨gb360, 2, none⟩ = some (.int .i64 a0_2) := (blk_cell BK360.out 2).trans rfl; have hfz11_0 := blk_frozen BK360.out 0; have hfz11_1 := blk_frozen BK360.out 1; have hfz11_2 := blk_frozen BK360.out 2) | ((with_reducible refine gate_callee (f := 57) rfl ?_); refine goesM (some 15) Try.func57 #[.agg #[.bool a0_0, .slice A0_1 l0_1.length c0_1, .int .i64 a0_2]] ?_; (with_reducible refine (steelyardref03_Made.calls k a0_0 _ _ l0_1 a0_2 t363 t364 t367 t368 _ ?side1 ?side2 A3.out).mono ?_); (case side1 => repeat (first | exact (Kd.C_below HR0_1.out HB.out) | (with_reducible first | apply cA | apply cN | apply cD))); (case side2 => exact HC0_1.out); rintro e w12 ⟨v365, rfl, ho0, hb⟩; refine ⟨_, rfl, ?_⟩; have n0_ := Aside0.mk (Kd.R_lower ho0 (below_size (bl_ HB))); have n1_ := kb_ BK360 hb; have n2_ := kb_ BK361 hb; have n3_ := kb_ BK362 hb; have n4_ := bs_ HB hb; clear BK360; clear BK361; clear BK362; clear HB; have HO366 := n0_; have BK360 := n1_; have BK361 := n2_; have BK362 := n3_; have HB := n4_; clear n0_ n1_ n2_ n3_ n4_; (try clear hb); (try clear hb2); (try clear hk); (try clear hi); (try clear ho0)) | ((with_reducible refine gate_dst (N := 6) rfl ?_); (try (refine gate_guard (by rfl) ?_; dsimp only)); refine box_event ?hg (N := 6) ?hd (cs := #[.bool false, .slice none 0 0, .int .i64 0]) (t := 43) ?hr ?_; (case hd => rfl); (case hg => rfl); (case hr => first | (go_simp; done) | (go_simp; rfl)); intro gb369 hg w13 hbox hb; have n0_ := Aside0.mk (Kd.R_below (by (with_reducible repeat (first | apply rA | apply rN | apply rD)); exact HO366.out) hb); have n1_ := kb_ BK360 hb; have n2_ := kb_ BK361 hb; have n3_ := kb_ BK362 hb; have n4_ := bs_ HB hb; have n5_ := Aside0.mk (hbox); have n6_ := ge_ HB hg; have n7_ := ge_ HB hg; have n8_ := nlt_ BK360 hg; have n9_ := ngt_ BK360 hg; have n10_ := nlt_ BK361 hg; have n11_ := ngt_ BK361 hg; have n12_ := nlt_ BK362 hg; have n13_ := ngt_ BK362 hg; clear HO366; clear BK360; clear BK361; clear BK362; clear HB; have HO366 := n0_; have BK360 := n1_; have BK361 := n2_; have BK362 := n3_; have HB := n4_; have BK369 := n5_; have GW369 := n6_; have GE369 := n7_; have NB360_369 := n8_; have NB369_360 := n9_; have NB361_369 := n10_; have NB369_361 := n11_; have NB362_369 := n12_; have NB369_362 := n13_; clear n0_ n1_ n2_ n3_ n4_ n5_ n6_ n7_ n8_ n9_ n10_ n11_ n12_ n13_; clear hb hbox hg; have hnb14 := NB369_360.out; have hnc14 := NB360_369.out; have hnb15 := NB369_361.out; have hnc15 := NB361_369.out; have hnb16 := NB369_362.out; have hnc16 := NB362_369.out; have hcz17_0 : w13.cell? ⟨gb369, 0, none⟩ = some (.bool false) := (blk_cell BK369.out 0).trans rfl; have hcz17_1 : w13.cell? ⟨gb369, 1, none⟩ = some (.slice none 0 0) := (blk_cell BK369.out 1).trans rfl; have hcz17_2 : w13.cell? ⟨gb369, 2, none⟩ = some (.int .i64 0) := (blk_cell BK369.out 2).trans rfl; have hfz17_0 := blk_frozen BK369.out 0; have hfz17_1 := blk_frozen BK369.out 1; have hfz17_2 := blk_frozen BK369.out 2; obtain ⟨Ao18, co18, eo18⟩ := Kd.R_slice HO366.out; subst eo18; have hnb19 := NB361_362.out; have hnc19 := NB362_361.out; have hcz20_0 : w13.cell? ⟨gb361, 0, none⟩ = some (.bool a1_0) := (blk_cell BK361.out 0).trans rfl; have hcz20_1 : w13.cell? ⟨gb361, 1, none⟩ = some (.slice A1_1 l1_1.length c1_1) := (blk_cell BK361.out 1).trans rfl; have hcz20_2 : w13.cell? ⟨gb361, 2, none⟩ = some (.int .i64 a1_2) := (blk_cell BK361.out 2).trans rfl; have hfz20_0 := blk_frozen BK361.out 0; have hfz20_1 := blk_frozen BK361.out 1; have hfz20_2 := blk_frozen BK361.out 2) | ((with_reducible refine gate_callee (f := 57) rfl ?_); refine goesM (some 20) Try.func57 #[.agg #[.bool a1_0, .slice A1_1 l1_1.length c1_1, .int .i64 a1_2]] ?_; (with_reducible refine (steelyardref03_Made.calls k a1_0 _ _ l1_1 a1_2 t370 t371 t374 t375 _ ?side1 ?side2 A4.out).mono ?_); (case side1 => exact Kd.C_below HR1_1.out (bl_ HB)); (case side2 => exact HC1_1.out); rintro e w21 ⟨v372, rfl, ho0, hb⟩; refine ⟨_, rfl, ?_⟩; have n0_ := Aside0.mk (Kd.R_elder' (by (with_reducible repeat (first | apply rA | apply rN | apply rD)); exact (Kd.R_mono (Kd.R_far (p := ⟨gb369, 2, none⟩) (Kd.R_far (p := ⟨gb369, 1, none⟩) (Kd.R_far (p := ⟨gb369, 0, none⟩) (Kd.R_types HO366.out BK369.out (by decide)) (fun _ hk => hk.2) (.bool t363)) (fun _ hk => hk.2) (.slice Ao18 t364.length co18)) (fun _ hk => hk.2) (.int .i64 t367)) (fun _ h_ => h_.1))) (Kd.R_base ho0) hb); have n1_ := Aside0.mk (Kd.R_lower (Kd.R_new' ho0 (Kd.R_lt (by (with_reducible repeat (first | apply rA | apply rN | apply rD)); exact (Kd.R_mono (Kd.R_far (p := ⟨gb369, 2, none⟩) (Kd.R_far (p := ⟨gb369, 1, none⟩) (Kd.R_far (p := ⟨gb369, 0, none⟩) (Kd.R_types HO366.out BK369.out (by decide)) (fun _ hk => hk.2) (.bool t363)) (fun _ hk => hk.2) (.slice Ao18 t364.length co18)) (fun _ hk => hk.2) (.int .i64 t367)) (fun _ h_ => h_.1))))) (below_size (bl_ HB))); have n2_ := Aside0.mk (blk_below (g := gb360) (o := .cells #[.bool a0_0, .slice A0_1 l0_1.length c0_1, .int .i64 a0_2] 43 (0, 0)) (by (with_reducible repeat (first | apply bN | apply bD | apply bA)); refine blk_far ?_ NB360_369.out _; (with_reducible repeat (first | apply bN | apply bD | apply bA)); refine blk_far ?_ NB360_369.out _; (with_reducible repeat (first | apply bN | apply bD | apply bA)); refine blk_far ?_ NB360_369.out _; (with_reducible repeat (first | apply bN | apply bD | apply bA)); exact BK360.out) hb); have n3_ := Aside0.mk (blk_below (g := gb361) (o := .cells #[.bool a1_0, .slice A1_1 l1_1.length c1_1, .int .i64 a1_2] 43 (0, 0)) (by (with_reducible repeat (first | apply bN | apply bD | apply bA)); refine blk_far ?_ NB361_369.out _; (with_reducible repeat (first | apply bN | apply bD | apply bA)); refine blk_far ?_ NB361_369.out _; (with_reducible repeat (first | apply bN | apply bD | apply bA)); refine blk_far ?_ NB361_369.out _; (with_reducible repeat (first | apply bN | apply bD | apply bA)); exact BK361.out) hb); have n4_ := Aside0.mk (blk_below (g := gb362) (o := .cells #[.bool false, .slice none 0 0, .int .i64 0] 43 (0, 0)) (by (with_reducible repeat (first | apply bN | apply bD | apply bA)); refine blk_far ?_ NB362_369.out _; (with_reducible repeat (first | apply bN | apply bD | apply bA)); refine blk_far ?_ NB362_369.out _; (with_reducible repeat (first | apply bN | apply bD | apply bA)); refine blk_far ?_ NB362_369.out _; (with_reducible repeat (first | apply bN | apply bD | apply bA)); exact BK362.out) hb); have n5_ := Aside0.mk (blk_below (g := gb369) (o := .cells #[.bool t363, .slice Ao18 t364.length co18, .int .i64 t367] 43 (0, 0)) (by (with_reducible repeat (first | apply bN | apply bD | apply bA)); refine blk_put (cs := #[.bool t363, .slice Ao18 t364.length co18, .int .i64 0]) ?_ 2 _ rfl; (with_reducible repeat (first | apply bN | apply bD | apply bA)); refine blk_put (cs := #[.bool t363, .slice none 0 0, .int .i64 0]) ?_ 1 _ rfl; (with_reducible repeat (first | apply bN | apply bD | apply bA)); refine blk_put (cs := #[.bool false, .slice none 0 0, .int .i64 0]) ?_ 0 _ rfl; (with_reducible repeat (first | apply bN | apply bD | apply bA)); exact BK369.out) hb); have n6_ := bs_ HB hb; clear HO366; clear BK360; clear BK361; clear BK362; clear BK369; clear HB; have HO366 := n0_; have HO373 := n1_; have BK360 := n2_; have BK361 := n3_; have BK362 := n4_; have BK369 := n5_; have HB := n6_; clear n0_ n1_ n2_ n3_ n4_ n5_ n6_; (try clear hb); (try clear hb2); (try clear hk); (try clear hi); (try clear ho0)) | ((with_reducible refine gate_dst (N := 8) rfl ?_); (try (refine gate_guard (by rfl) ?_; dsimp only)); refine box_event ?hg (N := 8) ?hd (cs := #[.bool false, .slice none 0 0, .int .i64 0]) (t := 43) ?hr ?_; (case hd => rfl); (case hg => rfl); (case hr => first | (go_simp; done) | (go_simp; rfl)); intro gb376 hg w22 hbox hb; have n0_ := Aside0.mk (Kd.R_below (by (with_reducible repeat (first | apply rA | apply rN | apply rD)); exact HO366.out) hb); have n1_ := Aside0.mk (Kd.R_below (by (with_reducible repeat (first | apply rA | apply rN | apply rD)); exact HO373.out) hb); have n2_ := kb_ BK360 hb; have n3_ := kb_ BK361 hb; have n4_ := kb_ BK362 hb; have n5_ := kb_ BK369 hb; have n6_ := bs_ HB hb; have n7_ := Aside0.mk (hbox); have n8_ := ge_ HB hg; have n9_ := ge_ HB hg; have n10_ := nlt_ BK360 hg; have n11_ := ngt_ BK360 hg; have n12_ := nlt_ BK361 hg; have n13_ := ngt_ BK361 hg; have n14_ := nlt_ BK362 hg; have n15_ := ngt_ BK362 hg; have n16_ := nlt_ BK369 hg; have n17_ := ngt_ BK369 hg; clear HO366; clear HO373; clear BK360; clear BK361; clear BK362; clear BK369; clear HB; have HO366 := n0_; have HO373 := n1_; have BK360 := n2_; have BK361 := n3_; have BK362 := n4_; have BK369 := n5_; have HB := n6_; have BK376 := n7_; have GW376 := n8_; have GE376 := n9_; have NB360_376 := n10_; have NB376_360 := n11_; have NB361_376 := n12_; have NB376_361 := n13_; have NB362_376 := n14_; have NB376_362 := n15_; have NB369_376 := n16_; have NB376_369 := n17_; clear n0_ n1_ n2_ n3_ n4_ n5_ n6_ n7_ n8_ n9_ n10_ n11_ n12_ n13_ n14_ n15_ n16_ n17_; clear hb hbox hg; have hnb23 := NB376_360.out; have hnc23 := NB360_376.out; have hnb24 := NB376_361.out; have hnc24 := NB361_376.out; have hnb25 := NB376_362.out; have hnc25 := NB362_376.out; have hnb26 := NB376_369.out; have hnc26 := NB369_376.out; have hcz27_0 : w22.cell? ⟨gb376, 0, none⟩ = some (.bool false) := (blk_cell BK376.out 0).trans rfl; have hcz27_1 : w22.cell? ⟨gb376, 1, none⟩ = some (.slice none 0 0) := (blk_cell BK376.out 1).trans rfl; have hcz27_2 : w22.cell? ⟨gb376, 2, none⟩ = some (.int .i64 0) := (blk_cell BK376.out 2).trans rfl; have hfz27_0 := blk_frozen BK376.out 0; have hfz27_1 := blk_frozen BK376.out 1; have hfz27_2 := blk_frozen BK376.out 2; obtain ⟨Ao28, co28, eo28⟩ := Kd.R_slice HO373.out; subst eo28))
 (try simp only [Act.put, List.setIfInBounds_toArray, List.set_cons_zero, List.set_cons_succ])
 go_cut [28] (fun v28 wc => ∃ (kq : Nat) (x28_4 : Bool), v28 = .bool x28_4 ∧ Aside0 (steelyardref03_Add.j0 kq x28_4 t363 t364 t367 t370 t371 t374 = some (r1, r2, r3, r4)) ∧ Aside0 (kq ≤ k) ∧ Aside0 (Kd.R (Kd.int .u32) 72 wc w.heap.size (fun k_ => some k_ ≠ ((.slice Ao28 t371.length co28) : Value).ownBlock) (.slice Ao18 t364.length co18) t364) ∧ Aside0 (Kd.R (Kd.int .u32) 72 wc w.heap.size (fun k_ => some k_ ≠ ((.slice Ao18 t364.length co18) : Value).ownBlock) (.slice Ao28 t371.length co28) t371) ∧ Aside0 (wc.heap[gb360]? = some (.cells #[.bool a0_0, (.slice A0_1 l0_1.length c0_1), .int .i64 a0_2] 43 (0, 0))) ∧ Aside0 (wc.heap[gb361]? = some (.cells #[.bool a1_0, (.slice A1_1 l1_1.length c1_1), .int .i64 a1_2] 43 (0, 0))) ∧ Aside0 (wc.heap[gb362]? = some (.cells #[.bool false, (.slice none 0 0), .int .i64 0] 43 (0, 0))) ∧ Aside0 (wc.heap[gb369]? = some (.cells #[.bool t363, (.slice Ao18 t364.length co18), .int .i64 t367] 43 (0, 0))) ∧ Aside0 (wc.heap[gb376]? = some (.cells #[.bool t370, (.slice Ao28 t371.length co28), .int .i64 t374] 43 (0, 0))) ∧ Aside0 (Below w.heap.size w wc))
 case first =>
  have H := HC5.out
  clear HC5
  by_cases c29 : t368 = true
  ·subst c29
   have H1 : (steelyardref03_Add.j0 k (!t375) t363 t364 t367 t370 t371 t374) = some (r1, r2, r3, r4) := by rw [if_pos rfl] at H; exact H
   clear H
   have H := H1
   clear H1
   have H' := Aside0.mk H
   clear H
   go_wp2
   go_meet
   case rel => exact ⟨_, (!t375), (by first | rfl | (simp; done) | (simp [*]; done)), H', ⟨by first | omega | exact Nat.le_refl _⟩, ⟨by (with_reducible repeat (first | apply rA | apply rN | apply rD)); exact Kd.R_mono (Kd.R_far (p := ⟨gb376, 2, none⟩) (Kd.R_far (p := ⟨gb376, 1, none⟩) (Kd.R_far (p := ⟨gb376, 0, none⟩) (Kd.R_types HO366.out BK376.out (by decide)) (fun _ hk => hk.2) (.bool t370)) (fun _ hk => hk.2) (.slice Ao28 t371.length co28)) (fun _ hk => hk.2) (.int .i64 t374)) (fun _ hk => hk.1.2)⟩, ⟨by (with_reducible repeat (first | apply rA | apply rN | apply rD)); exact Kd.R_mono (Kd.R_far (p := ⟨gb376, 2, none⟩) (Kd.R_far (p := ⟨gb376, 1, none⟩) (Kd.R_far (p := ⟨gb376, 0, none⟩) (Kd.R_types HO373.out BK376.out (by decide)) (fun _ hk => hk.2) (.bool t370)) (fun _ hk => hk.2) (.slice Ao28 t371.length co28)) (fun _ hk => hk.2) (.int .i64 t374)) (fun _ hk => hk.1.2)⟩, ⟨by (with_reducible repeat (first | apply bN | apply bD | apply bA)); refine blk_far ?_ NB360_376.out _; (with_reducible repeat (first | apply bN | apply bD | apply bA)); refine blk_far ?_ NB360_376.out _; (with_reducible repeat (first | apply bN | apply bD | apply bA)); refine blk_far ?_ NB360_376.out _; (with_reducible repeat (first | apply bN | apply bD | apply bA)); exact BK360.out⟩, ⟨by (with_reducible repeat (first | apply bN | apply bD | apply bA)); refine blk_far ?_ NB361_376.out _; (with_reducible repeat (first | apply bN | apply bD | apply bA)); refine blk_far ?_ NB361_376.out _; (with_reducible repeat (first | apply bN | apply bD | apply bA)); refine blk_far ?_ NB361_376.out _; (with_reducible repeat (first | apply bN | apply bD | apply bA)); exact BK361.out⟩, ⟨by (with_reducible repeat (first | apply bN | apply bD | apply bA)); refine blk_far ?_ NB362_376.out _; (with_reducible repeat (first | apply bN | apply bD | apply bA)); refine blk_far ?_ NB362_376.out _; (with_reducible repeat (first | apply bN | apply bD | apply bA)); refine blk_far ?_ NB362_376.out _; (with_reducible repeat (first | apply bN | apply bD | apply bA)); exact BK362.out⟩, ⟨by (with_reducible repeat (first | apply bN | apply bD | apply bA)); refine blk_far ?_ NB369_376.out _; (with_reducible repeat (first | apply bN | apply bD | apply bA)); refine blk_far ?_ NB369_376.out _; (with_reducible repeat (first | apply bN | apply bD | apply bA)); refine blk_far ?_ NB369_376.out _; (with_reducible repeat (first | apply bN | apply bD | apply bA)); exact BK369.out⟩, ⟨by (with_reducible repeat (first | apply bN | apply bD | apply bA)); refine blk_put (cs := #[.bool t370, .slice Ao28 t371.length co28, .int .i64 0]) ?_ 2 _ rfl; (with_reducible repeat (first | apply bN | apply bD | apply bA)); refine blk_put (cs := #[.bool t370, .slice none 0 0, .int .i64 0]) ?_ 1 _ rfl; (with_reducible repeat (first | apply bN | apply bD | apply bA)); refine blk_put (cs := #[.bool false, .slice none 0 0, .int .i64 0]) ?_ 0 _ rfl; (with_reducible repeat (first | apply bN | apply bD | apply bA)); exact BK376.out⟩, ⟨bl_ HB⟩⟩
  ·replace c29 := Bool.eq_false_iff.mpr c29
   subst c29
   have H1 : (steelyardref03_Add.j0 k true t363 t364 t367 t370 t371 t374) = some (r1, r2, r3, r4) := by rw [if_neg (show ¬ (false = true) by decide)] at H; exact H
   clear H
   have H := H1
   clear H1
   have H' := Aside0.mk H
   clear H
   go_wp2
   go_meet
   case rel => exact ⟨_, (true), (by first | rfl | (simp; done) | (simp [*]; done)), H', ⟨by first | omega | exact Nat.le_refl _⟩, ⟨by (with_reducible repeat (first | apply rA | apply rN | apply rD)); exact Kd.R_mono (Kd.R_far (p := ⟨gb376, 2, none⟩) (Kd.R_far (p := ⟨gb376, 1, none⟩) (Kd.R_far (p := ⟨gb376, 0, none⟩) (Kd.R_types HO366.out BK376.out (by decide)) (fun _ hk => hk.2) (.bool t370)) (fun _ hk => hk.2) (.slice Ao28 t371.length co28)) (fun _ hk => hk.2) (.int .i64 t374)) (fun _ hk => hk.1.2)⟩, ⟨by (with_reducible repeat (first | apply rA | apply rN | apply rD)); exact Kd.R_mono (Kd.R_far (p := ⟨gb376, 2, none⟩) (Kd.R_far (p := ⟨gb376, 1, none⟩) (Kd.R_far (p := ⟨gb376, 0, none⟩) (Kd.R_types HO373.out BK376.out (by decide)) (fun _ hk => hk.2) (.bool t370)) (fun _ hk => hk.2) (.slice Ao28 t371.length co28)) (fun _ hk => hk.2) (.int .i64 t374)) (fun _ hk => hk.1.2)⟩, ⟨by (with_reducible repeat (first | apply bN | apply bD | apply bA)); refine blk_far ?_ NB360_376.out _; (with_reducible repeat (first | apply bN | apply bD | apply bA)); refine blk_far ?_ NB360_376.out _; (with_reducible repeat (first | apply bN | apply bD | apply bA)); refine blk_far ?_ NB360_376.out _; (with_reducible repeat (first | apply bN | apply bD | apply bA)); exact BK360.out⟩, ⟨by (with_reducible repeat (first | apply bN | apply bD | apply bA)); refine blk_far ?_ NB361_376.out _; (with_reducible repeat (first | apply bN | apply bD | apply bA)); refine blk_far ?_ NB361_376.out _; (with_reducible repeat (first | apply bN | apply bD | apply bA)); refine blk_far ?_ NB361_376.out _; (with_reducible repeat (first | apply bN | apply bD | apply bA)); exact BK361.out⟩, ⟨by (with_reducible repeat (first | apply bN | apply bD | apply bA)); refine blk_far ?_ NB362_376.out _; (with_reducible repeat (first | apply bN | apply bD | apply bA)); refine blk_far ?_ NB362_376.out _; (with_reducible repeat (first | apply bN | apply bD | apply bA)); refine blk_far ?_ NB362_376.out _; (with_reducible repeat (first | apply bN | apply bD | apply bA)); exact BK362.out⟩, ⟨by (with_reducible repeat (first | apply bN | apply bD | apply bA)); refine blk_far ?_ NB369_376.out _; (with_reducible repeat (first | apply bN | apply bD | apply bA)); refine blk_far ?_ NB369_376.out _; (with_reducible repeat (first | apply bN | apply bD | apply bA)); refine blk_far ?_ NB369_376.out _; (with_reducible repeat (first | apply bN | apply bD | apply bA)); exact BK369.out⟩, ⟨by (with_reducible repeat (first | apply bN | apply bD | apply bA)); refine blk_put (cs := #[.bool t370, .slice Ao28 t371.length co28, .int .i64 0]) ?_ 2 _ rfl; (with_reducible repeat (first | apply bN | apply bD | apply bA)); refine blk_put (cs := #[.bool t370, .slice none 0 0, .int .i64 0]) ?_ 1 _ rfl; (with_reducible repeat (first | apply bN | apply bD | apply bA)); refine blk_put (cs := #[.bool false, .slice none 0 0, .int .i64 0]) ?_ 0 _ rfl; (with_reducible repeat (first | apply bN | apply bD | apply bA)); exact BK376.out⟩, ⟨bl_ HB⟩⟩
 case rest =>
  clear HC5
  try clear c1
  try clear c2
  try clear p2
  try clear c3
  try clear c5
  try clear c9
  try clear c10
  try clear c14
  try clear c15
  try clear c16
  try clear c19
  try clear c23
  try clear c24
  try clear c25
  try clear c26
  try clear c29
  try clear hcz11_0
  try clear hcz11_1
  try clear hcz11_2
  try clear hcz17_0
  try clear hcz17_1
  try clear hcz17_2
  try clear hcz20_0
  try clear hcz20_1
  try clear hcz20_2
  try clear hcz27_0
  try clear hcz27_1
  try clear hcz27_2
  try clear hfz11_0
  try clear hfz11_1
  try clear hfz11_2
  try clear hfz17_0
  try clear hfz17_1
  try clear hfz17_2
  try clear hfz20_0
  try clear hfz20_1
  try clear hfz20_2
  try clear hfz27_0
  try clear hfz27_1
  try clear hfz27_2
  obtain ⟨kq, x28_4, rfl, HA, HJ4, HO_370001, HO_377001, BK360, BK361, BK362, BK369, BK376, HB⟩ := hcut
  cases kq with
  | zero => exact absurd HA.out (by simp [steelyardref03_Add.j0])
  | succ kj4 =>
   have H := HA.out
   clear HA
   simp only [steelyardref03_Add.j0] at H
   by_cases c30 : x28_4 = true
   ·subst c30
    have H1 : (some (false, ([] : List Int), 0, 2)) = some (r1, r2, r3, r4) := by rw [if_pos rfl] at H; exact H
    clear H
    have H := H1
    clear H1
    simp only [Option.some.injEq, Prod.mk.injEq] at H
    obtain ⟨rfl, rfl, rfl, rfl⟩ := H
    have hnb31 := NB362_360.out
    have hnc31 := NB360_362.out
    have hnb32 := NB362_361.out
    have hnc32 := NB361_362.out
    have hnb33 := NB362_369.out
    have hnc33 := NB369_362.out
    have hnb34 := NB362_376.out
    have hnc34 := NB376_362.out
    have hcz35_0 : wc.cell? ⟨gb362, 0, none⟩ = some (.bool false) := (blk_cell BK362.out 0).trans rfl
    have hcz35_1 : wc.cell? ⟨gb362, 1, none⟩ = some (.slice none 0 0) := (blk_cell BK362.out 1).trans rfl
    have hcz35_2 : wc.cell? ⟨gb362, 2, none⟩ = some (.int .i64 0) := (blk_cell BK362.out 2).trans rfl
    have hfz35_0 := blk_frozen BK362.out 0
    have hfz35_1 := blk_frozen BK362.out 1
    have hfz35_2 := blk_frozen BK362.out 2
    go_wp2
    refine bodyPost_ret (results_ct rfl _ _ gb362 43 #[.bool false, .slice none 0 0, .int .i64 0] (0, 0) _ rfl (by (with_reducible repeat (first | apply bN | apply bD | apply bA)); refine blk_put (cs := #[.bool false, .slice none 0 0, .int .i64 0]) ?_ 2 _ rfl; (with_reducible repeat (first | apply bN | apply bD | apply bA)); refine blk_put (cs := #[.bool false, .slice none 0 0, .int .i64 0]) ?_ 1 _ rfl; (with_reducible repeat (first | apply bN | apply bD | apply bA)); refine blk_put (cs := #[.bool false, .slice none 0 0, .int .i64 0]) ?_ 0 _ rfl; (with_reducible repeat (first | apply bN | apply bD | apply bA)); exact BK362.out) Try.underlying43 rfl (by kernel_rfl)) rfl ?_
    exact ⟨_, by first | rfl | (simp [errW_none, errW_some] <;> rfl) | (simp [*, errW_none, errW_some] <;> rfl), by first | exact Kd.R_nil _ _ _ _ _ | exact Kd.N_nil _ _ _ _ _ | exact Kd.V_nil _ _ _ _ _ | exact Kd.Q_nil _ _ _ _ _ | exact Kd.S_nil _ _ _ _ _, bl_ HB⟩
   ·replace c30 := Bool.eq_false_iff.mpr c30
    subst c30
    have H1 : (if (t364.length : Int) = 0 then (some (t370, t371, t374, 0)) else (if (t371.length : Int) = 0 then (some (t363, t364, t367, 0)) else ((steelyardref02_Moved.f kj4 t364 (wrap64 (t367 - (mn t367 t374)))).bind fun t377 => ((steelyardref02_Moved.f kj4 t371 (wrap64 (t374 - (mn t367 t374)))).bind fun t380 => (if (t377.length : Int) > 8192 then (steelyardref03_Add.j1 kj4 (mn t367 t374) t377 t380 true t363 t364 t367 t370 t371 t374) else (steelyardref03_Add.j1 kj4 (mn t367 t374) t377 t380 (decide ((t380.length : Int) > 8192)) t363 t364 t367 t370 t371 t374)))))) = some (r1, r2, r3, r4) := by rw [if_neg (show ¬ (false = true) by decide)] at H; exact H
    clear H
    have H := H1
    clear H1
    by_cases c36 : (t364.length : Int) = 0
    ·rw [if_pos c36] at H
     have c36b0 : ((t364.length : Int) == 0) = true := beq_iff_eq.mpr c36
     have c36b1 : ((t364.length : Int) != 0) = false := bne_eq_false_iff_eq.mpr c36
     clear c36
     simp only [Option.some.injEq, Prod.mk.injEq] at H
     obtain ⟨rfl, rfl, rfl, rfl⟩ := H
     have hnb37 := NB369_360.out
     have hnc37 := NB360_369.out
     have hnb38 := NB369_361.out
     have hnc38 := NB361_369.out
     have hnb39 := NB369_362.out
     have hnc39 := NB362_369.out
     have hnb40 := NB369_376.out
     have hnc40 := NB376_369.out
     have hcz41_0 : wc.cell? ⟨gb369, 0, none⟩ = some (.bool t363) := (blk_cell BK369.out 0).trans rfl
     have hcz41_1 : wc.cell? ⟨gb369, 1, none⟩ = some (.slice Ao18 t364.length co18) := (blk_cell BK369.out 1).trans rfl
     have hcz41_2 : wc.cell? ⟨gb369, 2, none⟩ = some (.int .i64 t367) := (blk_cell BK369.out 2).trans rfl
     have hfz41_0 := blk_frozen BK369.out 0
     have hfz41_1 := blk_frozen BK369.out 1
     have hfz41_2 := blk_frozen BK369.out 2
     have hnb42 := NB376_360.out
     have hnc42 := NB360_376.out
     have hnb43 := NB376_361.out
     have hnc43 := NB361_376.out
     have hnb44 := NB376_362.out
     have hnc44 := NB362_376.out
     have hcz45_0 : wc.cell? ⟨gb376, 0, none⟩ = some (.bool t370) := (blk_cell BK376.out 0).trans rfl
     have hcz45_1 : wc.cell? ⟨gb376, 1, none⟩ = some (.slice Ao28 t371.length co28) := (blk_cell BK376.out 1).trans rfl
     have hcz45_2 : wc.cell? ⟨gb376, 2, none⟩ = some (.int .i64 t374) := (blk_cell BK376.out 2).trans rfl
     have hfz45_0 := blk_frozen BK376.out 0
     have hfz45_1 := blk_frozen BK376.out 1
     have hfz45_2 := blk_frozen BK376.out 2
     have hnb46 := NB362_360.out
     have hnc46 := NB360_362.out
     have hnb47 := NB362_361.out
     have hnc47 := NB361_362.out
     have hcz48_0 : wc.cell? ⟨gb362, 0, none⟩ = some (.bool false) := (blk_cell BK362.out 0).trans rfl
     have hcz48_1 : wc.cell? ⟨gb362, 1, none⟩ = some (.slice none 0 0) := (blk_cell BK362.out 1).trans rfl
     have hcz48_2 : wc.cell? ⟨gb362, 2, none⟩ = some (.int .i64 0) := (blk_cell BK362.out 2).trans rfl
     have hfz48_0 := blk_frozen BK362.out 0
     have hfz48_1 := blk_frozen BK362.out 1
     have hfz48_2 := blk_frozen BK362.out 2
     go_wp2
     refine bodyPost_ret (results_ct rfl _ _ gb362 43 #[.bool t370, .slice Ao28 t371.length co28, .int .i64 t374] (0, 0) _ rfl (by (with_reducible repeat (first | apply bN | apply bD | apply bA)); refine blk_put (cs := #[.bool t370, .slice Ao28 t371.length co28, .int .i64 0]) ?_ 2 _ rfl; (with_reducible repeat (first | apply bN | apply bD | apply bA)); refine blk_put (cs := #[.bool t370, .slice none 0 0, .int .i64 0]) ?_ 1 _ rfl; (with_reducible repeat (first | apply bN | apply bD | apply bA)); refine blk_put (cs := #[.bool false, .slice none 0 0, .int .i64 0]) ?_ 0 _ rfl; (with_reducible repeat (first | apply bN | apply bD | apply bA)); exact BK362.out) Try.underlying43 rfl (by kernel_rfl)) rfl ?_
     exact ⟨_, by first | rfl | (simp [errW_none, errW_some] <;> rfl) | (simp [*, errW_none, errW_some] <;> rfl), by (with_reducible repeat (first | apply rA | apply rN | apply rD)); exact Kd.R_mono (Kd.R_far (p := ⟨gb362, 2, none⟩) (Kd.R_far (p := ⟨gb362, 1, none⟩) (Kd.R_far (p := ⟨gb362, 0, none⟩) (Kd.R_types HO_377001.out BK362.out (by decide)) (fun _ hk => hk.2) (.bool t370)) (fun _ hk => hk.2) (.slice Ao28 t371.length co28)) (fun _ hk => hk.2) (.int .i64 t374)) (fun _ hk => trivial), bl_ HB⟩
    ·rw [if_neg c36] at H
     have c36b0 : ((t364.length : Int) == 0) = false := beq_eq_false_iff_ne.mpr c36
     have c36b1 : ((t364.length : Int) != 0) = true := bne_iff_ne.mpr c36
     have c36b2 : ¬ (t364 = []) := fun h_ => c36 (by rw [h_]; rfl)
     by_cases c49 : (t371.length : Int) = 0
     ·rw [if_pos c49] at H
      have c49b0 : ((t371.length : Int) == 0) = true := beq_iff_eq.mpr c49
      have c49b1 : ((t371.length : Int) != 0) = false := bne_eq_false_iff_eq.mpr c49
      clear c49
      simp only [Option.some.injEq, Prod.mk.injEq] at H
      obtain ⟨rfl, rfl, rfl, rfl⟩ := H
      have hnb50 := NB369_360.out
      have hnc50 := NB360_369.out
      have hnb51 := NB369_361.out
      have hnc51 := NB361_369.out
      have hnb52 := NB369_362.out
      have hnc52 := NB362_369.out
      have hnb53 := NB369_376.out
      have hnc53 := NB376_369.out
      have hcz54_0 : wc.cell? ⟨gb369, 0, none⟩ = some (.bool t363) := (blk_cell BK369.out 0).trans rfl
      have hcz54_1 : wc.cell? ⟨gb369, 1, none⟩ = some (.slice Ao18 t364.length co18) := (blk_cell BK369.out 1).trans rfl
      have hcz54_2 : wc.cell? ⟨gb369, 2, none⟩ = some (.int .i64 t367) := (blk_cell BK369.out 2).trans rfl
      have hfz54_0 := blk_frozen BK369.out 0
      have hfz54_1 := blk_frozen BK369.out 1
      have hfz54_2 := blk_frozen BK369.out 2
      have hnb55 := NB376_360.out
      have hnc55 := NB360_376.out
      have hnb56 := NB376_361.out
      have hnc56 := NB361_376.out
      have hnb57 := NB376_362.out
      have hnc57 := NB362_376.out
      have hcz58_0 : wc.cell? ⟨gb376, 0, none⟩ = some (.bool t370) := (blk_cell BK376.out 0).trans rfl
      have hcz58_1 : wc.cell? ⟨gb376, 1, none⟩ = some (.slice Ao28 t371.length co28) := (blk_cell BK376.out 1).trans rfl
      have hcz58_2 : wc.cell? ⟨gb376, 2, none⟩ = some (.int .i64 t374) := (blk_cell BK376.out 2).trans rfl
      have hfz58_0 := blk_frozen BK376.out 0
      have hfz58_1 := blk_frozen BK376.out 1
      have hfz58_2 := blk_frozen BK376.out 2
      have hnb59 := NB362_360.out
      have hnc59 := NB360_362.out
      have hnb60 := NB362_361.out
      have hnc60 := NB361_362.out
      have hcz61_0 : wc.cell? ⟨gb362, 0, none⟩ = some (.bool false) := (blk_cell BK362.out 0).trans rfl
      have hcz61_1 : wc.cell? ⟨gb362, 1, none⟩ = some (.slice none 0 0) := (blk_cell BK362.out 1).trans rfl
      have hcz61_2 : wc.cell? ⟨gb362, 2, none⟩ = some (.int .i64 0) := (blk_cell BK362.out 2).trans rfl
      have hfz61_0 := blk_frozen BK362.out 0
      have hfz61_1 := blk_frozen BK362.out 1
      have hfz61_2 := blk_frozen BK362.out 2
      go_wp2
      refine bodyPost_ret (results_ct rfl _ _ gb362 43 #[.bool t363, .slice Ao18 t364.length co18, .int .i64 t367] (0, 0) _ rfl (by (with_reducible repeat (first | apply bN | apply bD | apply bA)); refine blk_put (cs := #[.bool t363, .slice Ao18 t364.length co18, .int .i64 0]) ?_ 2 _ rfl; (with_reducible repeat (first | apply bN | apply bD | apply bA)); refine blk_put (cs := #[.bool t363, .slice none 0 0, .int .i64 0]) ?_ 1 _ rfl; (with_reducible repeat (first | apply bN | apply bD | apply bA)); refine blk_put (cs := #[.bool false, .slice none 0 0, .int .i64 0]) ?_ 0 _ rfl; (with_reducible repeat (first | apply bN | apply bD | apply bA)); exact BK362.out) Try.underlying43 rfl (by kernel_rfl)) rfl ?_
      exact ⟨_, by first | rfl | (simp [errW_none, errW_some] <;> rfl) | (simp [*, errW_none, errW_some] <;> rfl), by (with_reducible repeat (first | apply rA | apply rN | apply rD)); exact Kd.R_mono (Kd.R_far (p := ⟨gb362, 2, none⟩) (Kd.R_far (p := ⟨gb362, 1, none⟩) (Kd.R_far (p := ⟨gb362, 0, none⟩) (Kd.R_types HO_370001.out BK362.out (by decide)) (fun _ hk => hk.2) (.bool t363)) (fun _ hk => hk.2) (.slice Ao18 t364.length co18)) (fun _ hk => hk.2) (.int .i64 t367)) (fun _ hk => trivial), bl_ HB⟩
     ·rw [if_neg c49] at H
      have c49b0 : ((t371.length : Int) == 0) = false := beq_eq_false_iff_ne.mpr c49
      have c49b1 : ((t371.length : Int) != 0) = true := bne_iff_ne.mpr c49
      have c49b2 : ¬ (t371 = []) := fun h_ => c49 (by rw [h_]; rfl)
      obtain ⟨ji62, hji62⟩ : ∃ j_ : Int, (mn t367 t374) = j_ := ⟨_, rfl⟩
      replace H : ((steelyardref02_Moved.f kj4 t364 (wrap64 (t367 - (ji62)))).bind fun t377 => ((steelyardref02_Moved.f kj4 t371 (wrap64 (t374 - (ji62)))).bind fun t380 => (if (t377.length : Int) > 8192 then (steelyardref03_Add.j1 kj4 ji62 t377 t380 true t363 t364 t367 t370 t371 t374) else (steelyardref03_Add.j1 kj4 ji62 t377 t380 (decide ((t380.length : Int) > 8192)) t363 t364 t367 t370 t371 t374)))) = some (r1, r2, r3, r4) := by first | (rw [hji62] at H; exact H) | (simp only [hji62] at H ⊢; exact H)
      have hji62_ : (if t374 < t367 then t374 else t367) = ji62 := hji62
      obtain ⟨t377, A63, H⟩ := ob_ H
      try dsimp only at H
      obtain ⟨t380, A64, H⟩ := ob_ H
      try dsimp only at H
      have HC65 := Aside0.mk H
      clear H
      have hnb66 := NB369_360.out
      have hnc66 := NB360_369.out
      have hnb67 := NB369_361.out
      have hnc67 := NB361_369.out
      have hnb68 := NB369_362.out
      have hnc68 := NB362_369.out
      have hnb69 := NB369_376.out
      have hnc69 := NB376_369.out
      have hcz70_0 : wc.cell? ⟨gb369, 0, none⟩ = some (.bool t363) := (blk_cell BK369.out 0).trans rfl
      have hcz70_1 : wc.cell? ⟨gb369, 1, none⟩ = some (.slice Ao18 t364.length co18) := (blk_cell BK369.out 1).trans rfl
      have hcz70_2 : wc.cell? ⟨gb369, 2, none⟩ = some (.int .i64 t367) := (blk_cell BK369.out 2).trans rfl
      have hfz70_0 := blk_frozen BK369.out 0
      have hfz70_1 := blk_frozen BK369.out 1
      have hfz70_2 := blk_frozen BK369.out 2
      have hnb71 := NB376_360.out
      have hnc71 := NB360_376.out
      have hnb72 := NB376_361.out
      have hnc72 := NB361_376.out
      have hnb73 := NB376_362.out
      have hnc73 := NB362_376.out
      have hcz74_0 : wc.cell? ⟨gb376, 0, none⟩ = some (.bool t370) := (blk_cell BK376.out 0).trans rfl
      have hcz74_1 : wc.cell? ⟨gb376, 1, none⟩ = some (.slice Ao28 t371.length co28) := (blk_cell BK376.out 1).trans rfl
      have hcz74_2 : wc.cell? ⟨gb376, 2, none⟩ = some (.int .i64 t374) := (blk_cell BK376.out 2).trans rfl
      have hfz74_0 := blk_frozen BK376.out 0
      have hfz74_1 := blk_frozen BK376.out 1
      have hfz74_2 := blk_frozen BK376.out 2
      go_upto_region 12 with (first | ((with_reducible refine gate_callee (f := 58) rfl ?_); refine goesL_ (some 51) rfl rfl Try.func58 (by kernel_rfl) rfl #[.slice Ao18 t364.length co18, .int .i64 (wrap64 (t367 - (ji62)))] rfl (by (try simp only [List.map_toArray, List.map_cons, List.map_nil]); first | done | (simp only [hji62]; rfl) | rfl | (simp only [List.length_drop, List.length_take]; rfl)) ?_; (with_reducible refine (steelyardref02_Moved.calls kj4 _ _ t364 (wrap64 (t367 - (ji62))) t377 _ ?side1 ?side2 A63.out).mono ?_); (case side1 => repeat (first | exact (Kd.R_reads' HO_370001.out).2.2 | (with_reducible first | apply cA | apply cN | apply cD))); (case side2 => exact (Kd.R_reads' HO_370001.out).2.1); rintro e w75 ⟨v378, rfl, ho0, hb⟩; refine ⟨_, rfl, ?_⟩; have n0_ := Aside0.mk (Kd.R_elder' (by (with_reducible repeat (first | apply rA | apply rN | apply rD)); exact HO_370001.out) (Kd.R_base ho0) hb); have n1_ := Aside0.mk (Kd.R_elder' (by (with_reducible repeat (first | apply rA | apply rN | apply rD)); exact HO_377001.out) (Kd.R_base ho0) hb); have n2_ := Aside0.mk (Kd.R_lower (Kd.R_new' (Kd.R_new' ho0 (Kd.R_lt (by (with_reducible repeat (first | apply rA | apply rN | apply rD)); exact HO_370001.out))) (Kd.R_lt (by (with_reducible repeat (first | apply rA | apply rN | apply rD)); exact HO_377001.out))) (below_size (bl_ HB))); have n3_ := kb_ BK360 hb; have n4_ := kb_ BK361 hb; have n5_ := kb_ BK362 hb; have n6_ := kb_ BK369 hb; have n7_ := kb_ BK376 hb; have n8_ := bs_ HB hb; clear HO_370001; clear HO_377001; clear BK360; clear BK361; clear BK362; clear BK369; clear BK376; clear HB; have HO_370001 := n0_; have HO_377001 := n1_; have HO379 := n2_; have BK360 := n3_; have BK361 := n4_; have BK362 := n5_; have BK369 := n6_; have BK376 := n7_; have HB := n8_; clear n0_ n1_ n2_ n3_ n4_ n5_ n6_ n7_ n8_; (try clear hb); (try clear hb2); (try clear hk); (try clear hi); (try clear ho0); have hcz76_0 : w75.cell? ⟨gb376, 0, none⟩ = some (.bool t370) := (blk_cell BK376.out 0).trans rfl; have hcz76_1 : w75.cell? ⟨gb376, 1, none⟩ = some (.slice Ao28 t371.length co28) := (blk_cell BK376.out 1).trans rfl; have hcz76_2 : w75.cell? ⟨gb376, 2, none⟩ = some (.int .i64 t374) := (blk_cell BK376.out 2).trans rfl; have hfz76_0 := blk_frozen BK376.out 0; have hfz76_1 := blk_frozen BK376.out 1; have hfz76_2 := blk_frozen BK376.out 2) | ((with_reducible refine gate_callee (f := 58) rfl ?_); refine goesL_ (some 58) rfl rfl Try.func58 (by kernel_rfl) rfl #[.slice Ao28 t371.length co28, .int .i64 (wrap64 (t374 - (ji62)))] rfl (by (try simp only [List.map_toArray, List.map_cons, List.map_nil]); first | done | (simp only [hji62]; rfl) | rfl | (simp only [List.length_drop, List.length_take]; rfl)) ?_; (with_reducible refine (steelyardref02_Moved.calls kj4 _ _ t371 (wrap64 (t374 - (ji62))) t380 _ ?side1 ?side2 A64.out).mono ?_); (case side1 => repeat (first | exact (Kd.R_reads' HO_377001.out).2.2 | (with_reducible first | apply cA | apply cN | apply cD))); (case side2 => exact (Kd.R_reads' HO_377001.out).2.1); rintro e w77 ⟨v381, rfl, ho0, hb⟩; refine ⟨_, rfl, ?_⟩; have n0_ := Aside0.mk (Kd.R_elder' (by (with_reducible repeat (first | apply rA | apply rN | apply rD)); exact HO_370001.out) (Kd.R_base ho0) hb); have n1_ := Aside0.mk (Kd.R_elder' (by (with_reducible repeat (first | apply rA | apply rN | apply rD)); exact HO_377001.out) (Kd.R_base ho0) hb); have n2_ := Aside0.mk (Kd.R_elder' (by (with_reducible repeat (first | apply rA | apply rN | apply rD)); exact HO379.out) (Kd.R_base ho0) hb); have n3_ := Aside0.mk (Kd.R_lower (Kd.R_new' (Kd.R_new' (Kd.R_new' ho0 (Kd.R_lt (by (with_reducible repeat (first | apply rA | apply rN | apply rD)); exact HO_370001.out))) (Kd.R_lt (by (with_reducible repeat (first | apply rA | apply rN | apply rD)); exact HO_377001.out))) (Kd.R_lt (by (with_reducible repeat (first | apply rA | apply rN | apply rD)); exact HO379.out))) (below_size (bl_ HB))); have n4_ := kb_ BK360 hb; have n5_ := kb_ BK361 hb; have n6_ := kb_ BK362 hb; have n7_ := kb_ BK369 hb; have n8_ := kb_ BK376 hb; have n9_ := bs_ HB hb; clear HO_370001; clear HO_377001; clear HO379; clear BK360; clear BK361; clear BK362; clear BK369; clear BK376; clear HB; have HO_370001 := n0_; have HO_377001 := n1_; have HO379 := n2_; have HO382 := n3_; have BK360 := n4_; have BK361 := n5_; have BK362 := n6_; have BK369 := n7_; have BK376 := n8_; have HB := n9_; clear n0_ n1_ n2_ n3_ n4_ n5_ n6_ n7_ n8_ n9_; (try clear hb); (try clear hb2); (try clear hk); (try clear hi); (try clear ho0)))
      (try simp only [Act.put, List.setIfInBounds_toArray, List.set_cons_zero, List.set_cons_succ])
      go_cut [66] (fun v66 wc => ∃ (kq : Nat) (x66_64 : Bool), v66 = .bool x66_64 ∧ Aside0 (steelyardref03_Add.j1 kq ji62 t377 t380 x66_64 t363 t364 t367 t370 t371 t374 = some (r1, r2, r3, r4)) ∧ Aside0 (kq ≤ kj4) ∧ Aside0 (Kd.R (Kd.int .u32) 72 wc w.heap.size (fun k_ => some k_ ≠ (v381 : Value).ownBlock ∧ some k_ ≠ ((.slice Ao18 t364.length co18) : Value).ownBlock ∧ some k_ ≠ ((.slice Ao28 t371.length co28) : Value).ownBlock) v378 t377) ∧ Aside0 (Kd.R (Kd.int .u32) 72 wc w.heap.size (fun k_ => some k_ ≠ (v378 : Value).ownBlock ∧ some k_ ≠ ((.slice Ao18 t364.length co18) : Value).ownBlock ∧ some k_ ≠ ((.slice Ao28 t371.length co28) : Value).ownBlock) v381 t380) ∧ Aside0 (Kd.R (Kd.int .u32) 72 wc w.heap.size (fun k_ => some k_ ≠ (v378 : Value).ownBlock ∧ some k_ ≠ (v381 : Value).ownBlock ∧ some k_ ≠ ((.slice Ao28 t371.length co28) : Value).ownBlock) (.slice Ao18 t364.length co18) t364) ∧ Aside0 (Kd.R (Kd.int .u32) 72 wc w.heap.size (fun k_ => some k_ ≠ (v378 : Value).ownBlock ∧ some k_ ≠ (v381 : Value).ownBlock ∧ some k_ ≠ ((.slice Ao18 t364.length co18) : Value).ownBlock) (.slice Ao28 t371.length co28) t371) ∧ Aside0 (wc.heap[gb360]? = some (.cells #[.bool a0_0, (.slice A0_1 l0_1.length c0_1), .int .i64 a0_2] 43 (0, 0))) ∧ Aside0 (wc.heap[gb361]? = some (.cells #[.bool a1_0, (.slice A1_1 l1_1.length c1_1), .int .i64 a1_2] 43 (0, 0))) ∧ Aside0 (wc.heap[gb362]? = some (.cells #[.bool false, (.slice none 0 0), .int .i64 0] 43 (0, 0))) ∧ Aside0 (wc.heap[gb369]? = some (.cells #[.bool t363, (.slice Ao18 t364.length co18), .int .i64 t367] 43 (0, 0))) ∧ Aside0 (wc.heap[gb376]? = some (.cells #[.bool t370, (.slice Ao28 t371.length co28), .int .i64 t374] 43 (0, 0))) ∧ Aside0 (Below w.heap.size w wc))
      case first =>
       have H := HC65.out
       clear HC65
       by_cases c78 : (t377.length : Int) > 8192
       ·rw [if_pos c78] at H
        have c78b0 : decide (8192 < (t377.length : Int)) = true := decide_eq_true c78
        have c78b1 : decide (8192 < t377.length) = true := decide_eq_true (by omega)
        clear c78
        (first | rw [c78b0] | (simp only [i64_w, i32_w]; rw [c78b0]) | skip)
        have H' := Aside0.mk H
        clear H
        obtain ⟨Ao79, co79, eo79⟩ := Kd.R_slice HO379.out
        subst eo79
        go_wp2
        go_meet
        case rel => exact ⟨_, (true), (by first | rfl | (simp; done) | (simp [*]; done)), H', ⟨by have := HJ4.out; first | omega | exact Nat.le_refl _⟩, ⟨by (with_reducible repeat (first | apply rA | apply rN | apply rD)); exact Kd.R_mono HO379.out (fun _ hk => by first | exact ⟨hk.2, ⟨hk.1.1.2, hk.1.2⟩⟩ | (revert hk; simp only [and_imp]; intros; (repeat' apply And.intro) <;> assumption))⟩, ⟨by (with_reducible repeat (first | apply rA | apply rN | apply rD)); exact Kd.R_mono HO382.out (fun _ hk => by first | exact ⟨hk.2, ⟨hk.1.1.2, hk.1.2⟩⟩ | (revert hk; simp only [and_imp]; intros; (repeat' apply And.intro) <;> assumption))⟩, ⟨by (with_reducible repeat (first | apply rA | apply rN | apply rD)); exact Kd.R_mono HO_370001.out (fun _ hk => by first | exact ⟨hk.1.2, ⟨hk.2, hk.1.1⟩⟩ | (revert hk; simp only [and_imp]; intros; (repeat' apply And.intro) <;> assumption))⟩, ⟨by (with_reducible repeat (first | apply rA | apply rN | apply rD)); exact Kd.R_mono HO_377001.out (fun _ hk => by first | exact ⟨hk.1.2, ⟨hk.2, hk.1.1⟩⟩ | (revert hk; simp only [and_imp]; intros; (repeat' apply And.intro) <;> assumption))⟩, ⟨by (with_reducible repeat (first | apply bN | apply bD | apply bA)); exact BK360.out⟩, ⟨by (with_reducible repeat (first | apply bN | apply bD | apply bA)); exact BK361.out⟩, ⟨by (with_reducible repeat (first | apply bN | apply bD | apply bA)); exact BK362.out⟩, ⟨by (with_reducible repeat (first | apply bN | apply bD | apply bA)); exact BK369.out⟩, ⟨by (with_reducible repeat (first | apply bN | apply bD | apply bA)); exact BK376.out⟩, ⟨bl_ HB⟩⟩
       ·rw [if_neg c78] at H
        have c78b0 : decide (8192 < (t377.length : Int)) = false := decide_eq_false c78
        have c78b1 : decide (8192 < t377.length) = false := decide_eq_false (by omega)
        clear c78
        (first | rw [c78b0] | (simp only [i64_w, i32_w]; rw [c78b0]) | skip)
        have H' := Aside0.mk H
        clear H
        obtain ⟨Ao80, co80, eo80⟩ := Kd.R_slice HO379.out
        subst eo80
        obtain ⟨Ao81, co81, eo81⟩ := Kd.R_slice HO382.out
        subst eo81
        go_wp2
        go_meet
        case rel => exact ⟨_, (decide ((t380.length : Int) > 8192)), (by first | rfl | (simp; done) | (simp [*]; done)), H', ⟨by have := HJ4.out; first | omega | exact Nat.le_refl _⟩, ⟨by (with_reducible repeat (first | apply rA | apply rN | apply rD)); exact Kd.R_mono HO379.out (fun _ hk => by first | exact ⟨hk.2, ⟨hk.1.1.2, hk.1.2⟩⟩ | (revert hk; simp only [and_imp]; intros; (repeat' apply And.intro) <;> assumption))⟩, ⟨by (with_reducible repeat (first | apply rA | apply rN | apply rD)); exact Kd.R_mono HO382.out (fun _ hk => by first | exact ⟨hk.2, ⟨hk.1.1.2, hk.1.2⟩⟩ | (revert hk; simp only [and_imp]; intros; (repeat' apply And.intro) <;> assumption))⟩, ⟨by (with_reducible repeat (first | apply rA | apply rN | apply rD)); exact Kd.R_mono HO_370001.out (fun _ hk => by first | exact ⟨hk.1.2, ⟨hk.2, hk.1.1⟩⟩ | (revert hk; simp only [and_imp]; intros; (repeat' apply And.intro) <;> assumption))⟩, ⟨by (with_reducible repeat (first | apply rA | apply rN | apply rD)); exact Kd.R_mono HO_377001.out (fun _ hk => by first | exact ⟨hk.1.2, ⟨hk.2, hk.1.1⟩⟩ | (revert hk; simp only [and_imp]; intros; (repeat' apply And.intro) <;> assumption))⟩, ⟨by (with_reducible repeat (first | apply bN | apply bD | apply bA)); exact BK360.out⟩, ⟨by (with_reducible repeat (first | apply bN | apply bD | apply bA)); exact BK361.out⟩, ⟨by (with_reducible repeat (first | apply bN | apply bD | apply bA)); exact BK362.out⟩, ⟨by (with_reducible repeat (first | apply bN | apply bD | apply bA)); exact BK369.out⟩, ⟨by (with_reducible repeat (first | apply bN | apply bD | apply bA)); exact BK376.out⟩, ⟨bl_ HB⟩⟩
      case rest =>
       clear HC65
       try clear c1
       try clear c2
       try clear p2
       try clear c3
       try clear c4
       try clear c5
       try clear c6
       try clear p6
       try clear c7
       try clear c9
       try clear c10
       try clear c14
       try clear c15
       try clear c16
       try clear c19
       try clear c23
       try clear c24
       try clear c25
       try clear c26
       try clear c29
       try clear c30
       try clear c31
       try clear c32
       try clear c33
       try clear c34
       try clear c35
       try clear c36
       try clear c36b0
       try clear c36b1
       try clear c36b2
       try clear c37
       try clear c38
       try clear c39
       try clear c40
       try clear c42
       try clear c43
       try clear c44
       try clear c46
       try clear c47
       try clear c49
       try clear c49b0
       try clear c49b1
       try clear c49b2
       try clear c50
       try clear c51
       try clear c52
       try clear c53
       try clear c55
       try clear c56
       try clear c57
       try clear c58
       try clear c59
       try clear c60
       try clear p64
       try clear c66
       try clear c67
       try clear c68
       try clear c69
       try clear c71
       try clear c72
       try clear c73
       try clear c78
       try clear c78b0
       try clear c78b1
       try clear hcz11_0
       try clear hcz11_1
       try clear hcz11_2
       try clear hcz17_0
       try clear hcz17_1
       try clear hcz17_2
       try clear hcz20_0
       try clear hcz20_1
       try clear hcz20_2
       try clear hcz27_0
       try clear hcz27_1
       try clear hcz27_2
       try clear hcz35_0
       try clear hcz35_1
       try clear hcz35_2
       try clear hcz41_0
       try clear hcz41_1
       try clear hcz41_2
       try clear hcz45_0
       try clear hcz45_1
       try clear hcz45_2
       try clear hcz48_0
       try clear hcz48_1
       try clear hcz48_2
       try clear hcz54_0
       try clear hcz54_1
       try clear hcz54_2
       try clear hcz58_0
       try clear hcz58_1
       try clear hcz58_2
       try clear hcz61_0
       try clear hcz61_1
       try clear hcz61_2
       try clear hcz70_0
       try clear hcz70_1
       try clear hcz70_2
       try clear hcz74_0
       try clear hcz74_1
       try clear hcz74_2
       try clear hcz76_0
       try clear hcz76_1
       try clear hcz76_2
       try clear hfz11_0
       try clear hfz11_1
       try clear hfz11_2
       try clear hfz17_0
       try clear hfz17_1
       try clear hfz17_2
       try clear hfz20_0
       try clear hfz20_1
       try clear hfz20_2
       try clear hfz27_0
       try clear hfz27_1
       try clear hfz27_2
       try clear hfz35_0
       try clear hfz35_1
       try clear hfz35_2
       try clear hfz41_0
       try clear hfz41_1
       try clear hfz41_2
       try clear hfz45_0
       try clear hfz45_1
       try clear hfz45_2
       try clear hfz48_0
       try clear hfz48_1
       try clear hfz48_2
       try clear hfz54_0
       try clear hfz54_1
       try clear hfz54_2
       try clear hfz58_0
       try clear hfz58_1
       try clear hfz58_2
       try clear hfz61_0
       try clear hfz61_1
       try clear hfz61_2
       try clear hfz70_0
       try clear hfz70_1
       try clear hfz70_2
       try clear hfz74_0
       try clear hfz74_1
       try clear hfz74_2
       try clear hfz76_0
       try clear hfz76_1
       try clear hfz76_2
       try clear p2
       obtain ⟨kq, x66_64, rfl, HA, HJ64, HO_11, HO_12, HO_370001, HO_377001, BK360, BK361, BK362, BK369, BK376, HB⟩ := hcut
       cases kq with
       | zero => exact absurd HA.out (by simp [steelyardref03_Add.j1])
       | succ kj64 =>
        have H := HA.out
        clear HA
        simp only [steelyardref03_Add.j1] at H
        by_cases c82 : x66_64 = true
        ·subst c82
         have H1 : (some (false, ([] : List Int), 0, 2)) = some (r1, r2, r3, r4) := by rw [if_pos rfl] at H; exact H
         clear H
         have H := H1
         clear H1
         simp only [Option.some.injEq, Prod.mk.injEq] at H
         obtain ⟨rfl, rfl, rfl, rfl⟩ := H
         have hnb83 := NB362_360.out
         have hnc83 := NB360_362.out
         have hnb84 := NB362_361.out
         have hnc84 := NB361_362.out
         have hnb85 := NB362_369.out
         have hnc85 := NB369_362.out
         have hnb86 := NB362_376.out
         have hnc86 := NB376_362.out
         have hcz87_0 : wc.cell? ⟨gb362, 0, none⟩ = some (.bool false) := (blk_cell BK362.out 0).trans rfl
         have hcz87_1 : wc.cell? ⟨gb362, 1, none⟩ = some (.slice none 0 0) := (blk_cell BK362.out 1).trans rfl
         have hcz87_2 : wc.cell? ⟨gb362, 2, none⟩ = some (.int .i64 0) := (blk_cell BK362.out 2).trans rfl
         have hfz87_0 := blk_frozen BK362.out 0
         have hfz87_1 := blk_frozen BK362.out 1
         have hfz87_2 := blk_frozen BK362.out 2
         go_wp2
         refine bodyPost_ret (results_ct rfl _ _ gb362 43 #[.bool false, .slice none 0 0, .int .i64 0] (0, 0) _ rfl (by (with_reducible repeat (first | apply bN | apply bD | apply bA)); refine blk_put (cs := #[.bool false, .slice none 0 0, .int .i64 0]) ?_ 2 _ rfl; (with_reducible repeat (first | apply bN | apply bD | apply bA)); refine blk_put (cs := #[.bool false, .slice none 0 0, .int .i64 0]) ?_ 1 _ rfl; (with_reducible repeat (first | apply bN | apply bD | apply bA)); refine blk_put (cs := #[.bool false, .slice none 0 0, .int .i64 0]) ?_ 0 _ rfl; (with_reducible repeat (first | apply bN | apply bD | apply bA)); exact BK362.out) Try.underlying43 rfl (by kernel_rfl)) rfl ?_
         exact ⟨_, by first | rfl | (simp [errW_none, errW_some] <;> rfl) | (simp only [← hji62]; first | rfl | (simp [errW_none, errW_some] <;> rfl)) | (simp [*, errW_none, errW_some] <;> rfl), by first | exact Kd.R_nil _ _ _ _ _ | exact Kd.N_nil _ _ _ _ _ | exact Kd.V_nil _ _ _ _ _ | exact Kd.Q_nil _ _ _ _ _ | exact Kd.S_nil _ _ _ _ _, bl_ HB⟩
        ·replace c82 := Bool.eq_false_iff.mpr c82
         subst c82
         have H1 : (if (t363 == t370) = true then ((steelyardref02_Plus.f kj64 t377 t380).bind fun t383 => ((steelyardref03_told.f kj64 t363 t383 ji62).bind fun bt386 => (some (bt386.1, bt386.2.1, bt386.2.2.1, bt386.2.2.2)))) else ((steelyardref02_Cmp.f kj64 t377 t380).bind fun t392 => (if t392 ≥ 0 then ((steelyardref02_Minus.f kj64 t377 t380).bind fun t393 => ((steelyardref03_told.f kj64 t363 t393 ji62).bind fun bt396 => (some (bt396.1, bt396.2.1, bt396.2.2.1, bt396.2.2.2)))) else ((steelyardref02_Minus.f kj64 t380 t377).bind fun t402 => ((steelyardref03_told.f kj64 t370 t402 ji62).bind fun bt405 => (some (bt405.1, bt405.2.1, bt405.2.2.1, bt405.2.2.2))))))) = some (r1, r2, r3, r4) := by rw [if_neg (show ¬ (false = true) by decide)] at H; exact H
         clear H
         have H := H1
         clear H1
         by_cases c88 : (t363 == t370) = true
         ·rw [if_pos c88] at H
          have c88b0 : (t363 == t370) = true := c88
          (try (have c88b1 : decide (t363 = t370) = true := by simpa using c88))
          (try (have c88b2 : (t363 == t370) = true := by simpa using c88))
          clear c88
          obtain ⟨t383, A89, H⟩ := ob_ H
          try dsimp only at H
          obtain ⟨⟨t386, t387, t390, t391⟩, A90, H⟩ := ob_ H
          try dsimp only at H
          simp only [Option.some.injEq, Prod.mk.injEq] at H
          obtain ⟨rfl, rfl, rfl, rfl⟩ := H
          have hnb91 := NB369_360.out
          have hnc91 := NB360_369.out
          have hnb92 := NB369_361.out
          have hnc92 := NB361_369.out
          have hnb93 := NB369_362.out
          have hnc93 := NB362_369.out
          have hnb94 := NB369_376.out
          have hnc94 := NB376_369.out
          have hcz95_0 : wc.cell? ⟨gb369, 0, none⟩ = some (.bool t363) := (blk_cell BK369.out 0).trans rfl
          have hcz95_1 : wc.cell? ⟨gb369, 1, none⟩ = some (.slice Ao18 t364.length co18) := (blk_cell BK369.out 1).trans rfl
          have hcz95_2 : wc.cell? ⟨gb369, 2, none⟩ = some (.int .i64 t367) := (blk_cell BK369.out 2).trans rfl
          have hfz95_0 := blk_frozen BK369.out 0
          have hfz95_1 := blk_frozen BK369.out 1
          have hfz95_2 := blk_frozen BK369.out 2
          have hnb96 := NB376_360.out
          have hnc96 := NB360_376.out
          have hnb97 := NB376_361.out
          have hnc97 := NB361_376.out
          have hnb98 := NB376_362.out
          have hnc98 := NB362_376.out
          have hcz99_0 : wc.cell? ⟨gb376, 0, none⟩ = some (.bool t370) := (blk_cell BK376.out 0).trans rfl
          have hcz99_1 : wc.cell? ⟨gb376, 1, none⟩ = some (.slice Ao28 t371.length co28) := (blk_cell BK376.out 1).trans rfl
          have hcz99_2 : wc.cell? ⟨gb376, 2, none⟩ = some (.int .i64 t374) := (blk_cell BK376.out 2).trans rfl
          have hfz99_0 := blk_frozen BK376.out 0
          have hfz99_1 := blk_frozen BK376.out 1
          have hfz99_2 := blk_frozen BK376.out 2
          try go_wp2
          have n0_ := Aside0.mk (Kd.R_drew HO_11.out)
          have n1_ := Aside0.mk (Kd.R_drew HO_12.out)
          have n2_ := Aside0.mk (Kd.R_drew HO_370001.out)
          have n3_ := Aside0.mk (Kd.R_drew HO_377001.out)
          have n4_ := Aside0.mk (blk_drew BK360.out)
          have n5_ := Aside0.mk (blk_drew BK361.out)
          have n6_ := Aside0.mk (blk_drew BK362.out)
          have n7_ := Aside0.mk (blk_drew BK369.out)
          have n8_ := Aside0.mk (blk_drew BK376.out)
          have n9_ := Aside0.mk (below_drew1 HB.out)
          clear HO_11
          clear HO_12
          clear HO_370001
          clear HO_377001
          clear BK360
          clear BK361
          clear BK362
          clear BK369
          clear BK376
          clear HB
          have HO_11 := n0_
          have HO_12 := n1_
          have HO_370001 := n2_
          have HO_377001 := n3_
          have BK360 := n4_
          have BK361 := n5_
          have BK362 := n6_
          have BK369 := n7_
          have BK376 := n8_
          have HB := n9_
          clear n0_ n1_ n2_ n3_ n4_ n5_ n6_ n7_ n8_ n9_
          obtain ⟨Ao101, co101, eo101⟩ := Kd.R_slice HO_11.out
          (first | subst eo101 | (injection eo101 with f1_ f2_ f3_; have f4_ := f1_.symm; have f5_ := f3_.symm; clear f1_ f2_ f3_; subst f4_; subst f5_))
          obtain ⟨Ao102, co102, eo102⟩ := Kd.R_slice HO_12.out
          (first | subst eo102 | (injection eo102 with f1_ f2_ f3_; have f4_ := f1_.symm; have f5_ := f3_.symm; clear f1_ f2_ f3_; subst f4_; subst f5_))
          refine start_ (n := 11) (S := fun w' => w'.cell? ⟨gb369, 0, none⟩ = some (.bool t363) ∧ w'.cell? ⟨gb369, 1, none⟩ = some (.slice Ao18 t364.length co18) ∧ w'.cell? ⟨gb369, 2, none⟩ = some (.int .i64 t367)) (ds := []) #[false, false, false, false, false, false, false, false, false, false, false] (by kernel_rfl) rfl rfl ⟨(blk_cell BK369.out 0).trans rfl, (blk_cell BK369.out 1).trans rfl, (blk_cell BK369.out 2).trans rfl⟩ (fun hHeld => ?_); refine with_tabW steelyardref03_Add.tab15 steelyardref03_Add.bits15 (fun HT_ HW_ => ?_)
          generalize wc.drew = w100 at HO_11 HO_12 HO_370001 HO_377001 BK360 BK361 BK362 BK369 BK376 HB hHeld ⊢
          refine pure_ (i := 0) (N := some 73) (v := ?_) (a' := ?_) #[true, false, false, false, false, false, false, false, false, false, false] rfl rfl (any_of HT_.out (by kernel_rfl)) (fun _ _ _ h => h) (Or.inl ⟨by rfl, ?_⟩) ?_ ?_
          rotate_left
          ·intro w'
           go_simp
           with_reducible rfl
          rotate_left
          ·simp only [Act.put, List.setIfInBounds_toArray, List.set_cons_zero, List.set_cons_succ, i64_w, i32_w]
           rfl
          refine pure_ (i := 2) (N := some 75) (v := ?_) (a' := ?_) #[true, false, true, false, false, false, false, false, false, false, false] rfl rfl (any_of HT_.out (by kernel_rfl)) (fun _ _ _ h => h) (Or.inl ⟨by rfl, ?_⟩) ?_ ?_
          rotate_left
          ·intro w'
           go_simp
           with_reducible rfl
          rotate_left
          ·simp only [Act.put, List.setIfInBounds_toArray, List.set_cons_zero, List.set_cons_succ, i64_w, i32_w]
           rfl
          refine pure_ (i := 3) (N := some 76) (v := ?_) (a' := ?_) #[true, false, true, true, false, false, false, false, false, false, false] rfl rfl (any_of HT_.out (by kernel_rfl)) (fun _ _ _ h => h) (Or.inl ⟨by rfl, ?_⟩) ?_ ?_
          rotate_left
          ·intro w'
           go_simp
           with_reducible rfl
          rotate_left
          ·simp only [Act.put, List.setIfInBounds_toArray, List.set_cons_zero, List.set_cons_succ, i64_w, i32_w]
           rfl
          refine pure_ (i := 5) (N := some 78) (v := ?_) (a' := ?_) #[true, false, true, true, false, true, false, false, false, false, false] rfl rfl (any_of HT_.out (by kernel_rfl)) (fun _ _ _ h => h) (Or.inl ⟨by rfl, ?_⟩) ?_ ?_
          rotate_left
          ·intro w'
           go_simp
           with_reducible rfl
          rotate_left
          ·simp only [Act.put, List.setIfInBounds_toArray, List.set_cons_zero, List.set_cons_succ, i64_w, i32_w]
           rfl
          refine take_ (i := 1) (N := some 74) (v := ?_) (a' := ?_) #[true, true, true, true, false, true, false, false, false, false, false] rfl rfl (take_ofW HT_.out HW_.out (by kernel_rfl)) (fun _ _ _ h => h) (Or.inl ⟨by rfl, ?_⟩) hHeld ?_ ?_
          rotate_left
          ·rintro w' ⟨s0, s1, s2⟩
           go_simp
           with_reducible rfl
          rotate_left
          ·simp only [Act.put, List.setIfInBounds_toArray, List.set_cons_zero, List.set_cons_succ, i64_w, i32_w]
           rfl
          refine one_ (i := 4) (N := some 77) #[true, true, true, true, true, true, false, false, false, false, false] rfl rfl (one_of HT_.out (by kernel_rfl)) (by decide) (fun K hK => ?_)
          refine goes_ Try.func60 (by kernel_rfl) rfl #[.slice Ao101 t377.length co101, .slice Ao102 t380.length co102] (by rfl) rfl rfl (by (try simp only [List.map_toArray, List.map_cons, List.map_nil]); first | done | rfl | (simp only [List.length_drop, List.length_take]; rfl)) ?_
          with_reducible refine (steelyardref02_Plus.calls kj64 _ _ t377 _ _ t380 t383 _ ?side1 ?side2 ?side3 ?side4 A89.out).mono ?_
          (case side1 => repeat (first | exact (Kd.R_reads' HO_11.out).2.2 | (with_reducible first | apply cA | apply cN | apply cD)))
          (case side2 => exact (Kd.R_reads' HO_11.out).2.1)
          (case side3 => repeat (first | exact (Kd.R_reads' HO_12.out).2.2 | (with_reducible first | apply cA | apply cN | apply cD)))
          (case side4 => exact (Kd.R_reads' HO_12.out).2.1)
          rintro e w103 ⟨v384, rfl, ho0, hb⟩
          refine ⟨_, rfl, ?_⟩
          have n0_ := Aside0.mk (Kd.R_elder' (by (with_reducible repeat (first | apply rA | apply rN | apply rD)); exact HO_11.out) (Kd.R_base ho0) hb)
          have n1_ := Aside0.mk (Kd.R_elder' (by (with_reducible repeat (first | apply rA | apply rN | apply rD)); exact HO_12.out) (Kd.R_base ho0) hb)
          have n2_ := Aside0.mk (Kd.R_elder' (by (with_reducible repeat (first | apply rA | apply rN | apply rD)); exact HO_370001.out) (Kd.R_base ho0) hb)
          have n3_ := Aside0.mk (Kd.R_elder' (by (with_reducible repeat (first | apply rA | apply rN | apply rD)); exact HO_377001.out) (Kd.R_base ho0) hb)
          have n4_ := Aside0.mk (Kd.R_lower (Kd.R_new' (Kd.R_new' (Kd.R_new' (Kd.R_new' ho0 (Kd.R_lt (by (with_reducible repeat (first | apply rA | apply rN | apply rD)); exact HO_11.out))) (Kd.R_lt (by (with_reducible repeat (first | apply rA | apply rN | apply rD)); exact HO_12.out))) (Kd.R_lt (by (with_reducible repeat (first | apply rA | apply rN | apply rD)); exact HO_370001.out))) (Kd.R_lt (by (with_reducible repeat (first | apply rA | apply rN | apply rD)); exact HO_377001.out))) (below_size (bl_ HB)))
          have n5_ := kb_ BK360 hb
          have n6_ := kb_ BK361 hb
          have n7_ := kb_ BK362 hb
          have n8_ := kb_ BK369 hb
          have n9_ := kb_ BK376 hb
          have n10_ := bs_ HB hb
          clear HO_11
          clear HO_12
          clear HO_370001
          clear HO_377001
          clear BK360
          clear BK361
          clear BK362
          clear BK369
          clear BK376
          clear HB
          have HO_11 := n0_
          have HO_12 := n1_
          have HO_370001 := n2_
          have HO_377001 := n3_
          have HO385 := n4_
          have BK360 := n5_
          have BK361 := n6_
          have BK362 := n7_
          have BK369 := n8_
          have BK376 := n9_
          have HB := n10_
          clear n0_ n1_ n2_ n3_ n4_ n5_ n6_ n7_ n8_ n9_ n10_
          (try clear hb)
          (try clear hb2)
          (try clear hk)
          (try clear hi)
          (try clear ho0)
          obtain ⟨Ao104, co104, eo104⟩ := Kd.R_slice HO385.out
          (first | subst eo104 | (injection eo104 with f1_ f2_ f3_; have f4_ := f1_.symm; have f5_ := f3_.symm; clear f1_ f2_ f3_; subst f4_; subst f5_))
          refine hK.out _ _ ⟨(blk_cell BK369.out 0).trans rfl, (blk_cell BK369.out 1).trans rfl, (blk_cell BK369.out 2).trans rfl⟩ (fun hHeld => ?_)
          clear hK K
          refine norm_ (a' := ?_) ?_ ?_
          rotate_left
          ·show Act.put _ (some 77) _ = _
           simp only [Act.put, List.setIfInBounds_toArray, List.set_cons_zero, List.set_cons_succ, i64_w, i32_w]
           rfl
          refine one_ (i := 6) (N := some 79) #[true, true, true, true, true, true, true, false, false, false, false] rfl rfl (one_of HT_.out (by kernel_rfl)) (by decide) (fun K hK => ?_)
          refine goes_ Try.func59 (by kernel_rfl) rfl #[.bool t363, .slice Ao104 t383.length co104, .int .i64 ji62] (by rfl) rfl rfl (by (try simp only [List.map_toArray, List.map_cons, List.map_nil]); first | done | (simp only [hji62]; rfl) | rfl | (simp only [List.length_drop, List.length_take]; rfl)) ?_
          with_reducible refine (steelyardref03_told.calls kj64 t363 _ _ t383 ji62 t386 t387 t390 t391 _ ?side1 ?side2 A90.out).mono ?_
          (case side1 => repeat (first | exact (Kd.R_reads' HO385.out).2.2 | (with_reducible first | apply cA | apply cN | apply cD)))
          (case side2 => exact (Kd.R_reads' HO385.out).2.1)
          rintro e w105 ⟨v388, rfl, ho0, hb⟩
          refine ⟨_, rfl, ?_⟩
          have n0_ := Aside0.mk (Kd.R_elder' (by (with_reducible repeat (first | apply rA | apply rN | apply rD)); exact HO_11.out) (Kd.R_base ho0) hb)
          have n1_ := Aside0.mk (Kd.R_elder' (by (with_reducible repeat (first | apply rA | apply rN | apply rD)); exact HO_12.out) (Kd.R_base ho0) hb)
          have n2_ := Aside0.mk (Kd.R_elder' (by (with_reducible repeat (first | apply rA | apply rN | apply rD)); exact HO_370001.out) (Kd.R_base ho0) hb)
          have n3_ := Aside0.mk (Kd.R_elder' (by (with_reducible repeat (first | apply rA | apply rN | apply rD)); exact HO_377001.out) (Kd.R_base ho0) hb)
          have n4_ := Aside0.mk (Kd.R_elder' (by (with_reducible repeat (first | apply rA | apply rN | apply rD)); exact HO385.out) (Kd.R_base ho0) hb)
          have n5_ := Aside0.mk (Kd.R_lower (Kd.R_new' (Kd.R_new' (Kd.R_new' (Kd.R_new' (Kd.R_new' ho0 (Kd.R_lt (by (with_reducible repeat (first | apply rA | apply rN | apply rD)); exact HO_11.out))) (Kd.R_lt (by (with_reducible repeat (first | apply rA | apply rN | apply rD)); exact HO_12.out))) (Kd.R_lt (by (with_reducible repeat (first | apply rA | apply rN | apply rD)); exact HO_370001.out))) (Kd.R_lt (by (with_reducible repeat (first | apply rA | apply rN | apply rD)); exact HO_377001.out))) (Kd.R_lt (by (with_reducible repeat (first | apply rA | apply rN | apply rD)); exact HO385.out))) (below_size (bl_ HB)))
          have n6_ := kb_ BK360 hb
          have n7_ := kb_ BK361 hb
          have n8_ := kb_ BK362 hb
          have n9_ := kb_ BK369 hb
          have n10_ := kb_ BK376 hb
          have n11_ := bs_ HB hb
          clear HO_11
          clear HO_12
          clear HO_370001
          clear HO_377001
          clear HO385
          clear BK360
          clear BK361
          clear BK362
          clear BK369
          clear BK376
          clear HB
          have HO_11 := n0_
          have HO_12 := n1_
          have HO_370001 := n2_
          have HO_377001 := n3_
          have HO385 := n4_
          have HO389 := n5_
          have BK360 := n6_
          have BK361 := n7_
          have BK362 := n8_
          have BK369 := n9_
          have BK376 := n10_
          have HB := n11_
          clear n0_ n1_ n2_ n3_ n4_ n5_ n6_ n7_ n8_ n9_ n10_ n11_
          (try clear hb)
          (try clear hb2)
          (try clear hk)
          (try clear hi)
          (try clear ho0)
          obtain ⟨Ao107, co107, eo107⟩ := Kd.R_slice HO389.out
          (first | subst eo107 | (injection eo107 with f1_ f2_ f3_; have f4_ := f1_.symm; have f5_ := f3_.symm; clear f1_ f2_ f3_; subst f4_; subst f5_))
          refine hK.out _ _ ⟨(blk_cell BK369.out 0).trans rfl, (blk_cell BK369.out 1).trans rfl, (blk_cell BK369.out 2).trans rfl⟩ (fun hHeld => ?_)
          clear hK K
          refine norm_ (a' := ?_) ?_ ?_
          rotate_left
          ·show Act.put _ (some 79) _ = _
           simp only [Act.put, List.setIfInBounds_toArray, List.set_cons_zero, List.set_cons_succ, i64_w, i32_w]
           rfl
          refine pure_ (i := 7) (N := some 80) (v := ?_) (a' := ?_) #[true, true, true, true, true, true, true, true, false, false, false] rfl rfl (any_of HT_.out (by kernel_rfl)) (fun _ _ _ h => h) (Or.inl ⟨by rfl, ?_⟩) ?_ ?_
          rotate_left
          ·intro w'
           go_simp
           with_reducible rfl
          rotate_left
          ·simp only [Act.put, List.setIfInBounds_toArray, List.set_cons_zero, List.set_cons_succ, i64_w, i32_w]
           rfl
          refine pure_ (i := 8) (N := some 81) (v := ?_) (a' := ?_) #[true, true, true, true, true, true, true, true, true, false, false] rfl rfl (any_of HT_.out (by kernel_rfl)) (fun _ _ _ h => h) (Or.inl ⟨by rfl, ?_⟩) ?_ ?_
          rotate_left
          ·intro w'
           go_simp
           with_reducible rfl
          rotate_left
          ·simp only [Act.put, List.setIfInBounds_toArray, List.set_cons_zero, List.set_cons_succ, i64_w, i32_w]
           rfl
          refine one_ (i := 9) (N := none) #[true, true, true, true, true, true, true, true, true, true, false] rfl rfl (one_of HT_.out (by kernel_rfl)) (by decide) (fun K hK => ?_)
          have hs106 : w105.cell? ⟨gb362, 0, none⟩ = some (.bool false) := (blk_cell BK362.out 0).trans rfl
          have hfs106 := blk_frozen BK362.out 0
          have hns106_0 := NB360_362.out
          have hns106_1 := NB361_362.out
          have hns106_3 := NB369_362.out
          have hns106_4 := NB376_362.out
          have hms106_0 := NB362_360.out
          have hms106_1 := NB362_361.out
          have hms106_3 := NB362_369.out
          have hms106_4 := NB362_376.out
          have hs108 : w105.cell? ⟨gb362, 1, none⟩ = some (.slice none 0 0) := (blk_cell BK362.out 1).trans rfl
          have hfs108 := blk_frozen BK362.out 1
          have hns108_0 := NB360_362.out
          have hns108_1 := NB361_362.out
          have hns108_3 := NB369_362.out
          have hns108_4 := NB376_362.out
          have hms108_0 := NB362_360.out
          have hms108_1 := NB362_361.out
          have hms108_3 := NB362_369.out
          have hms108_4 := NB362_376.out
          have hs109 : w105.cell? ⟨gb362, 2, none⟩ = some (.int .i64 0) := (blk_cell BK362.out 2).trans rfl
          have hfs109 := blk_frozen BK362.out 2
          have hns109_0 := NB360_362.out
          have hns109_1 := NB361_362.out
          have hns109_3 := NB369_362.out
          have hns109_4 := NB376_362.out
          have hms109_0 := NB362_360.out
          have hms109_1 := NB362_361.out
          have hms109_3 := NB362_369.out
          have hms109_4 := NB362_376.out
          refine skip_ (w1 := ?_) (by rfl) rfl ?_ ?_
          rotate_left
          ·go_simp
           rfl
          refine hK.out _ _ ⟨((cell_far (p := ⟨gb362, _, none⟩) NB369_362.out _).trans (((cell_far (p := ⟨gb362, _, none⟩) NB369_362.out _).trans (((cell_far (p := ⟨gb362, _, none⟩) NB369_362.out _).trans (hHeld.1)))))), ((cell_far (p := ⟨gb362, _, none⟩) NB369_362.out _).trans (((cell_far (p := ⟨gb362, _, none⟩) NB369_362.out _).trans (((cell_far (p := ⟨gb362, _, none⟩) NB369_362.out _).trans (hHeld.2.1)))))), ((cell_far (p := ⟨gb362, _, none⟩) NB369_362.out _).trans (((cell_far (p := ⟨gb362, _, none⟩) NB369_362.out _).trans (((cell_far (p := ⟨gb362, _, none⟩) NB369_362.out _).trans (hHeld.2.2))))))⟩ (fun hHeld => ?_)
          clear hK K
          refine pure_ (i := 10) (N := some 5) (v := ?_) (a' := ?_) #[true, true, true, true, true, true, true, true, true, true, true] rfl rfl (any_of HT_.out (by kernel_rfl)) (fun _ _ _ h => h) (Or.inl ⟨by rfl, ?_⟩) ?_ ?_
          rotate_left
          ·intro w'
           go_simp
           with_reducible rfl
          rotate_left
          ·simp only [Act.put, List.setIfInBounds_toArray, List.set_cons_zero, List.set_cons_succ, i64_w, i32_w]
           rfl
          refine done_ (done_of HT_.out (by kernel_rfl)) ?_
          try go_wp2
          refine bodyPost_ret (results_ct rfl _ _ gb362 43 #[.bool t386, .slice Ao107 t387.length co107, .int .i64 t390] (0, 0) _ rfl (by (with_reducible repeat (first | apply bN | apply bD | apply bA)); refine blk_put (cs := #[.bool t386, .slice Ao107 t387.length co107, .int .i64 0]) ?_ 2 _ rfl; (with_reducible repeat (first | apply bN | apply bD | apply bA)); refine blk_put (cs := #[.bool t386, .slice none 0 0, .int .i64 0]) ?_ 1 _ rfl; (with_reducible repeat (first | apply bN | apply bD | apply bA)); refine blk_put (cs := #[.bool false, .slice none 0 0, .int .i64 0]) ?_ 0 _ rfl; (with_reducible repeat (first | apply bN | apply bD | apply bA)); exact BK362.out) Try.underlying43 rfl (by kernel_rfl)) rfl ?_
          exact ⟨_, by first | rfl | (simp [errW_none, errW_some] <;> rfl) | (simp only [← hji62]; first | rfl | (simp [errW_none, errW_some] <;> rfl)) | (simp [*, errW_none, errW_some] <;> rfl), by (with_reducible repeat (first | apply rA | apply rN | apply rD)); exact Kd.R_mono (Kd.R_far (p := ⟨gb362, 2, none⟩) (Kd.R_far (p := ⟨gb362, 1, none⟩) (Kd.R_far (p := ⟨gb362, 0, none⟩) (Kd.R_types HO389.out BK362.out (by decide)) (fun _ hk => hk.2) (.bool t386)) (fun _ hk => hk.2) (.slice Ao107 t387.length co107)) (fun _ hk => hk.2) (.int .i64 t390)) (fun _ hk => trivial), bl_ HB⟩
         ·rw [if_neg c88] at H
          have c88b0 : (t363 == t370) = false := by simpa using c88
          (try (have c88b1 : decide (t363 = t370) = false := by simpa using c88))
          (try (have c88b2 : (t363 == t370) = false := by simpa using c88))
          (try (have c88b3 : ¬ (t363 = t370) := by simpa using c88))
          clear c88
          obtain ⟨t392, A110, H⟩ := ob_ H
          try dsimp only at H
          by_cases c111 : t392 ≥ 0
          ·rw [if_pos c111] at H
           have c111b0 : decide (0 ≤ t392) = true := decide_eq_true c111
           clear c111
           obtain ⟨t393, A112, H⟩ := ob_ H
           try dsimp only at H
           obtain ⟨⟨t396, t397, t400, t401⟩, A113, H⟩ := ob_ H
           try dsimp only at H
           simp only [Option.some.injEq, Prod.mk.injEq] at H
           obtain ⟨rfl, rfl, rfl, rfl⟩ := H
           have hnb114 := NB369_360.out
           have hnc114 := NB360_369.out
           have hnb115 := NB369_361.out
           have hnc115 := NB361_369.out
           have hnb116 := NB369_362.out
           have hnc116 := NB362_369.out
           have hnb117 := NB369_376.out
           have hnc117 := NB376_369.out
           have hcz118_0 : wc.cell? ⟨gb369, 0, none⟩ = some (.bool t363) := (blk_cell BK369.out 0).trans rfl
           have hcz118_1 : wc.cell? ⟨gb369, 1, none⟩ = some (.slice Ao18 t364.length co18) := (blk_cell BK369.out 1).trans rfl
           have hcz118_2 : wc.cell? ⟨gb369, 2, none⟩ = some (.int .i64 t367) := (blk_cell BK369.out 2).trans rfl
           have hfz118_0 := blk_frozen BK369.out 0
           have hfz118_1 := blk_frozen BK369.out 1
           have hfz118_2 := blk_frozen BK369.out 2
           have hnb119 := NB376_360.out
           have hnc119 := NB360_376.out
           have hnb120 := NB376_361.out
           have hnc120 := NB361_376.out
           have hnb121 := NB376_362.out
           have hnc121 := NB362_376.out
           have hcz122_0 : wc.cell? ⟨gb376, 0, none⟩ = some (.bool t370) := (blk_cell BK376.out 0).trans rfl
           have hcz122_1 : wc.cell? ⟨gb376, 1, none⟩ = some (.slice Ao28 t371.length co28) := (blk_cell BK376.out 1).trans rfl
           have hcz122_2 : wc.cell? ⟨gb376, 2, none⟩ = some (.int .i64 t374) := (blk_cell BK376.out 2).trans rfl
           have hfz122_0 := blk_frozen BK376.out 0
           have hfz122_1 := blk_frozen BK376.out 1
           have hfz122_2 := blk_frozen BK376.out 2
           obtain ⟨Ao123, co123, eo123⟩ := Kd.R_slice HO_11.out
           subst eo123
           obtain ⟨Ao124, co124, eo124⟩ := Kd.R_slice HO_12.out
           subst eo124
           try go_wp2_with (first | ((with_reducible refine gate_callee (f := 61) rfl ?_); refine goesM (some 84) Try.func61 #[.slice Ao123 t377.length co123, .slice Ao124 t380.length co124] ?_; (with_reducible refine (steelyardref02_Cmp.calls kj64 _ _ t377 _ _ t380 t392 _ ?side1 ?side2 ?side3 ?side4 A110.out).mono ?_); (case side1 => repeat (first | exact (Kd.R_reads' HO_11.out).2.2 | (with_reducible first | apply cA | apply cN | apply cD))); (case side2 => exact (Kd.R_reads' HO_11.out).2.1); (case side3 => repeat (first | exact (Kd.R_reads' HO_12.out).2.2 | (with_reducible first | apply cA | apply cN | apply cD))); (case side4 => exact (Kd.R_reads' HO_12.out).2.1); rintro e w' ⟨rfl, ⟨nd, rfl⟩⟩; refine ⟨_, rfl, ?_⟩; (try (rw [drewN_self wc]; generalize hq_ : World.drewN wc _ = wc; have n0_ : Aside0 (Kd.R (Kd.int .u32) 72 wc w.heap.size (fun k_ => some k_ ≠ (.slice Ao124 t380.length co124 : Value).ownBlock ∧ some k_ ≠ (.slice Ao18 t364.length co18 : Value).ownBlock ∧ some k_ ≠ (.slice Ao28 t371.length co28 : Value).ownBlock) (.slice Ao123 t377.length co123) t377) := ⟨by rw [← hq_]; exact (by (with_reducible repeat (first | apply rA | apply rN | apply rD)); exact HO_11.out)⟩; have n1_ : Aside0 (Kd.R (Kd.int .u32) 72 wc w.heap.size (fun k_ => some k_ ≠ (.slice Ao123 t377.length co123 : Value).ownBlock ∧ some k_ ≠ (.slice Ao18 t364.length co18 : Value).ownBlock ∧ some k_ ≠ (.slice Ao28 t371.length co28 : Value).ownBlock) (.slice Ao124 t380.length co124) t380) := ⟨by rw [← hq_]; exact (by (with_reducible repeat (first | apply rA | apply rN | apply rD)); exact HO_12.out)⟩; have n2_ : Aside0 (Kd.R (Kd.int .u32) 72 wc w.heap.size (fun k_ => some k_ ≠ (.slice Ao123 t377.length co123 : Value).ownBlock ∧ some k_ ≠ (.slice Ao124 t380.length co124 : Value).ownBlock ∧ some k_ ≠ (.slice Ao28 t371.length co28 : Value).ownBlock) (.slice Ao18 t364.length co18) t364) := ⟨by rw [← hq_]; exact (by (with_reducible repeat (first | apply rA | apply rN | apply rD)); exact HO_370001.out)⟩; have n3_ : Aside0 (Kd.R (Kd.int .u32) 72 wc w.heap.size (fun k_ => some k_ ≠ (.slice Ao123 t377.length co123 : Value).ownBlock ∧ some k_ ≠ (.slice Ao124 t380.length co124 : Value).ownBlock ∧ some k_ ≠ (.slice Ao18 t364.length co18 : Value).ownBlock) (.slice Ao28 t371.length co28) t371) := ⟨by rw [← hq_]; exact (by (with_reducible repeat (first | apply rA | apply rN | apply rD)); exact HO_377001.out)⟩; have n4_ : Aside0 (wc.heap[gb360]? = some (.cells #[.bool a0_0, .slice A0_1 l0_1.length c0_1, .int .i64 a0_2] 43 (0, 0))) := ⟨by rw [← hq_]; exact (bk_ BK360)⟩; have n5_ : Aside0 (wc.heap[gb361]? = some (.cells #[.bool a1_0, .slice A1_1 l1_1.length c1_1, .int .i64 a1_2] 43 (0, 0))) := ⟨by rw [← hq_]; exact (bk_ BK361)⟩; have n6_ : Aside0 (wc.heap[gb362]? = some (.cells #[.bool false, .slice none 0 0, .int .i64 0] 43 (0, 0))) := ⟨by rw [← hq_]; exact (bk_ BK362)⟩; have n7_ : Aside0 (wc.heap[gb369]? = some (.cells #[.bool t363, .slice Ao18 t364.length co18, .int .i64 t367] 43 (0, 0))) := ⟨by rw [← hq_]; exact (bk_ BK369)⟩; have n8_ : Aside0 (wc.heap[gb376]? = some (.cells #[.bool t370, .slice Ao28 t371.length co28, .int .i64 t374] 43 (0, 0))) := ⟨by rw [← hq_]; exact (bk_ BK376)⟩; have n9_ : Aside0 (Below w.heap.size w wc) := ⟨by rw [← hq_]; exact (bl_ HB)⟩; clear HO_11 HO_12 HO_370001 HO_377001 BK360 BK361 BK362 BK369 BK376 HB hq_; have HO_11 := n0_; have HO_12 := n1_; have HO_370001 := n2_; have HO_377001 := n3_; have BK360 := n4_; have BK361 := n5_; have BK362 := n6_; have BK369 := n7_; have BK376 := n8_; have HB := n9_; clear n0_ n1_ n2_ n3_ n4_ n5_ n6_ n7_ n8_ n9_))))
           have n0_ := Aside0.mk (Kd.R_drew HO_11.out)
           have n1_ := Aside0.mk (Kd.R_drew HO_12.out)
           have n2_ := Aside0.mk (Kd.R_drew HO_370001.out)
           have n3_ := Aside0.mk (Kd.R_drew HO_377001.out)
           have n4_ := Aside0.mk (blk_drew BK360.out)
           have n5_ := Aside0.mk (blk_drew BK361.out)
           have n6_ := Aside0.mk (blk_drew BK362.out)
           have n7_ := Aside0.mk (blk_drew BK369.out)
           have n8_ := Aside0.mk (blk_drew BK376.out)
           have n9_ := Aside0.mk (below_drew1 HB.out)
           clear HO_11
           clear HO_12
           clear HO_370001
           clear HO_377001
           clear BK360
           clear BK361
           clear BK362
           clear BK369
           clear BK376
           clear HB
           have HO_11 := n0_
           have HO_12 := n1_
           have HO_370001 := n2_
           have HO_377001 := n3_
           have BK360 := n4_
           have BK361 := n5_
           have BK362 := n6_
           have BK369 := n7_
           have BK376 := n8_
           have HB := n9_
           clear n0_ n1_ n2_ n3_ n4_ n5_ n6_ n7_ n8_ n9_
           refine start_ (n := 11) (S := fun w' => w'.cell? ⟨gb369, 0, none⟩ = some (.bool t363) ∧ w'.cell? ⟨gb369, 1, none⟩ = some (.slice Ao18 t364.length co18) ∧ w'.cell? ⟨gb369, 2, none⟩ = some (.int .i64 t367)) (ds := []) #[false, false, false, false, false, false, false, false, false, false, false] (by kernel_rfl) rfl rfl ⟨(blk_cell BK369.out 0).trans rfl, (blk_cell BK369.out 1).trans rfl, (blk_cell BK369.out 2).trans rfl⟩ (fun hHeld => ?_); refine with_tabW steelyardref03_Add.tab17 steelyardref03_Add.bits17 (fun HT_ HW_ => ?_)
           generalize wc.drew = w125 at HO_11 HO_12 HO_370001 HO_377001 BK360 BK361 BK362 BK369 BK376 HB hHeld ⊢
           refine pure_ (i := 0) (N := some 86) (v := ?_) (a' := ?_) #[true, false, false, false, false, false, false, false, false, false, false] rfl rfl (any_of HT_.out (by kernel_rfl)) (fun _ _ _ h => h) (Or.inl ⟨by rfl, ?_⟩) ?_ ?_
           rotate_left
           ·intro w'
            go_simp
            with_reducible rfl
           rotate_left
           ·simp only [Act.put, List.setIfInBounds_toArray, List.set_cons_zero, List.set_cons_succ, i64_w, i32_w]
            rfl
           refine pure_ (i := 2) (N := some 88) (v := ?_) (a' := ?_) #[true, false, true, false, false, false, false, false, false, false, false] rfl rfl (any_of HT_.out (by kernel_rfl)) (fun _ _ _ h => h) (Or.inl ⟨by rfl, ?_⟩) ?_ ?_
           rotate_left
           ·intro w'
            go_simp
            with_reducible rfl
           rotate_left
           ·simp only [Act.put, List.setIfInBounds_toArray, List.set_cons_zero, List.set_cons_succ, i64_w, i32_w]
            rfl
           refine pure_ (i := 3) (N := some 89) (v := ?_) (a' := ?_) #[true, false, true, true, false, false, false, false, false, false, false] rfl rfl (any_of HT_.out (by kernel_rfl)) (fun _ _ _ h => h) (Or.inl ⟨by rfl, ?_⟩) ?_ ?_
           rotate_left
           ·intro w'
            go_simp
            with_reducible rfl
           rotate_left
           ·simp only [Act.put, List.setIfInBounds_toArray, List.set_cons_zero, List.set_cons_succ, i64_w, i32_w]
            rfl
           refine pure_ (i := 5) (N := some 91) (v := ?_) (a' := ?_) #[true, false, true, true, false, true, false, false, false, false, false] rfl rfl (any_of HT_.out (by kernel_rfl)) (fun _ _ _ h => h) (Or.inl ⟨by rfl, ?_⟩) ?_ ?_
           rotate_left
           ·intro w'
            go_simp
            with_reducible rfl
           rotate_left
           ·simp only [Act.put, List.setIfInBounds_toArray, List.set_cons_zero, List.set_cons_succ, i64_w, i32_w]
            rfl
           refine take_ (i := 1) (N := some 87) (v := ?_) (a' := ?_) #[true, true, true, true, false, true, false, false, false, false, false] rfl rfl (take_ofW HT_.out HW_.out (by kernel_rfl)) (fun _ _ _ h => h) (Or.inl ⟨by rfl, ?_⟩) hHeld ?_ ?_
           rotate_left
           ·rintro w' ⟨s0, s1, s2⟩
            go_simp
            with_reducible rfl
           rotate_left
           ·simp only [Act.put, List.setIfInBounds_toArray, List.set_cons_zero, List.set_cons_succ, i64_w, i32_w]
            rfl
           refine one_ (i := 4) (N := some 90) #[true, true, true, true, true, true, false, false, false, false, false] rfl rfl (one_of HT_.out (by kernel_rfl)) (by decide) (fun K hK => ?_)
           refine goes_ Try.func62 (by kernel_rfl) rfl #[.slice Ao123 t377.length co123, .slice Ao124 t380.length co124] (by rfl) rfl rfl (by (try simp only [List.map_toArray, List.map_cons, List.map_nil]); first | done | rfl | (simp only [List.length_drop, List.length_take]; rfl)) ?_
           with_reducible refine (steelyardref02_Minus.calls kj64 _ _ t377 _ _ t380 t393 _ ?side1 ?side2 ?side3 ?side4 A112.out).mono ?_
           (case side1 => repeat (first | exact (Kd.R_reads' HO_11.out).2.2 | (with_reducible first | apply cA | apply cN | apply cD)))
           (case side2 => exact (Kd.R_reads' HO_11.out).2.1)
           (case side3 => repeat (first | exact (Kd.R_reads' HO_12.out).2.2 | (with_reducible first | apply cA | apply cN | apply cD)))
           (case side4 => exact (Kd.R_reads' HO_12.out).2.1)
           rintro e w126 ⟨v394, rfl, ho0, hb⟩
           refine ⟨_, rfl, ?_⟩
           have n0_ := Aside0.mk (Kd.R_elder' (by (with_reducible repeat (first | apply rA | apply rN | apply rD)); exact HO_11.out) (Kd.R_base ho0) hb)
           have n1_ := Aside0.mk (Kd.R_elder' (by (with_reducible repeat (first | apply rA | apply rN | apply rD)); exact HO_12.out) (Kd.R_base ho0) hb)
           have n2_ := Aside0.mk (Kd.R_elder' (by (with_reducible repeat (first | apply rA | apply rN | apply rD)); exact HO_370001.out) (Kd.R_base ho0) hb)
           have n3_ := Aside0.mk (Kd.R_elder' (by (with_reducible repeat (first | apply rA | apply rN | apply rD)); exact HO_377001.out) (Kd.R_base ho0) hb)
           have n4_ := Aside0.mk (Kd.R_lower (Kd.R_new' (Kd.R_new' (Kd.R_new' (Kd.R_new' ho0 (Kd.R_lt (by (with_reducible repeat (first | apply rA | apply rN | apply rD)); exact HO_11.out))) (Kd.R_lt (by (with_reducible repeat (first | apply rA | apply rN | apply rD)); exact HO_12.out))) (Kd.R_lt (by (with_reducible repeat (first | apply rA | apply rN | apply rD)); exact HO_370001.out))) (Kd.R_lt (by (with_reducible repeat (first | apply rA | apply rN | apply rD)); exact HO_377001.out))) (below_size (bl_ HB)))
           have n5_ := kb_ BK360 hb
           have n6_ := kb_ BK361 hb
           have n7_ := kb_ BK362 hb
           have n8_ := kb_ BK369 hb
           have n9_ := kb_ BK376 hb
           have n10_ := bs_ HB hb
           clear HO_11
           clear HO_12
           clear HO_370001
           clear HO_377001
           clear BK360
           clear BK361
           clear BK362
           clear BK369
           clear BK376
           clear HB
           have HO_11 := n0_
           have HO_12 := n1_
           have HO_370001 := n2_
           have HO_377001 := n3_
           have HO395 := n4_
           have BK360 := n5_
           have BK361 := n6_
           have BK362 := n7_
           have BK369 := n8_
           have BK376 := n9_
           have HB := n10_
           clear n0_ n1_ n2_ n3_ n4_ n5_ n6_ n7_ n8_ n9_ n10_
           (try clear hb)
           (try clear hb2)
           (try clear hk)
           (try clear hi)
           (try clear ho0)
           obtain ⟨Ao127, co127, eo127⟩ := Kd.R_slice HO395.out
           (first | subst eo127 | (injection eo127 with f1_ f2_ f3_; have f4_ := f1_.symm; have f5_ := f3_.symm; clear f1_ f2_ f3_; subst f4_; subst f5_))
           refine hK.out _ _ ⟨(blk_cell BK369.out 0).trans rfl, (blk_cell BK369.out 1).trans rfl, (blk_cell BK369.out 2).trans rfl⟩ (fun hHeld => ?_)
           clear hK K
           refine norm_ (a' := ?_) ?_ ?_
           rotate_left
           ·show Act.put _ (some 90) _ = _
            simp only [Act.put, List.setIfInBounds_toArray, List.set_cons_zero, List.set_cons_succ, i64_w, i32_w]
            rfl
           refine one_ (i := 6) (N := some 92) #[true, true, true, true, true, true, true, false, false, false, false] rfl rfl (one_of HT_.out (by kernel_rfl)) (by decide) (fun K hK => ?_)
           refine goes_ Try.func59 (by kernel_rfl) rfl #[.bool t363, .slice Ao127 t393.length co127, .int .i64 ji62] (by rfl) rfl rfl (by (try simp only [List.map_toArray, List.map_cons, List.map_nil]); first | done | (simp only [hji62]; rfl) | rfl | (simp only [List.length_drop, List.length_take]; rfl)) ?_
           with_reducible refine (steelyardref03_told.calls kj64 t363 _ _ t393 ji62 t396 t397 t400 t401 _ ?side1 ?side2 A113.out).mono ?_
           (case side1 => repeat (first | exact (Kd.R_reads' HO395.out).2.2 | (with_reducible first | apply cA | apply cN | apply cD)))
           (case side2 => exact (Kd.R_reads' HO395.out).2.1)
           rintro e w128 ⟨v398, rfl, ho0, hb⟩
           refine ⟨_, rfl, ?_⟩
           have n0_ := Aside0.mk (Kd.R_elder' (by (with_reducible repeat (first | apply rA | apply rN | apply rD)); exact HO_11.out) (Kd.R_base ho0) hb)
           have n1_ := Aside0.mk (Kd.R_elder' (by (with_reducible repeat (first | apply rA | apply rN | apply rD)); exact HO_12.out) (Kd.R_base ho0) hb)
           have n2_ := Aside0.mk (Kd.R_elder' (by (with_reducible repeat (first | apply rA | apply rN | apply rD)); exact HO_370001.out) (Kd.R_base ho0) hb)
           have n3_ := Aside0.mk (Kd.R_elder' (by (with_reducible repeat (first | apply rA | apply rN | apply rD)); exact HO_377001.out) (Kd.R_base ho0) hb)
           have n4_ := Aside0.mk (Kd.R_elder' (by (with_reducible repeat (first | apply rA | apply rN | apply rD)); exact HO395.out) (Kd.R_base ho0) hb)
           have n5_ := Aside0.mk (Kd.R_lower (Kd.R_new' (Kd.R_new' (Kd.R_new' (Kd.R_new' (Kd.R_new' ho0 (Kd.R_lt (by (with_reducible repeat (first | apply rA | apply rN | apply rD)); exact HO_11.out))) (Kd.R_lt (by (with_reducible repeat (first | apply rA | apply rN | apply rD)); exact HO_12.out))) (Kd.R_lt (by (with_reducible repeat (first | apply rA | apply rN | apply rD)); exact HO_370001.out))) (Kd.R_lt (by (with_reducible repeat (first | apply rA | apply rN | apply rD)); exact HO_377001.out))) (Kd.R_lt (by (with_reducible repeat (first | apply rA | apply rN | apply rD)); exact HO395.out))) (below_size (bl_ HB)))
           have n6_ := kb_ BK360 hb
           have n7_ := kb_ BK361 hb
           have n8_ := kb_ BK362 hb
           have n9_ := kb_ BK369 hb
           have n10_ := kb_ BK376 hb
           have n11_ := bs_ HB hb
           clear HO_11
           clear HO_12
           clear HO_370001
           clear HO_377001
           clear HO395
           clear BK360
           clear BK361
           clear BK362
           clear BK369
           clear BK376
           clear HB
           have HO_11 := n0_
           have HO_12 := n1_
           have HO_370001 := n2_
           have HO_377001 := n3_
           have HO395 := n4_
           have HO399 := n5_
           have BK360 := n6_
           have BK361 := n7_
           have BK362 := n8_
           have BK369 := n9_
           have BK376 := n10_
           have HB := n11_
           clear n0_ n1_ n2_ n3_ n4_ n5_ n6_ n7_ n8_ n9_ n10_ n11_
           (try clear hb)
           (try clear hb2)
           (try clear hk)
           (try clear hi)
           (try clear ho0)
           obtain ⟨Ao130, co130, eo130⟩ := Kd.R_slice HO399.out
           (first | subst eo130 | (injection eo130 with f1_ f2_ f3_; have f4_ := f1_.symm; have f5_ := f3_.symm; clear f1_ f2_ f3_; subst f4_; subst f5_))
           refine hK.out _ _ ⟨(blk_cell BK369.out 0).trans rfl, (blk_cell BK369.out 1).trans rfl, (blk_cell BK369.out 2).trans rfl⟩ (fun hHeld => ?_)
           clear hK K
           refine norm_ (a' := ?_) ?_ ?_
           rotate_left
           ·show Act.put _ (some 92) _ = _
            simp only [Act.put, List.setIfInBounds_toArray, List.set_cons_zero, List.set_cons_succ, i64_w, i32_w]
            rfl
           refine pure_ (i := 7) (N := some 93) (v := ?_) (a' := ?_) #[true, true, true, true, true, true, true, true, false, false, false] rfl rfl (any_of HT_.out (by kernel_rfl)) (fun _ _ _ h => h) (Or.inl ⟨by rfl, ?_⟩) ?_ ?_
           rotate_left
           ·intro w'
            go_simp
            with_reducible rfl
           rotate_left
           ·simp only [Act.put, List.setIfInBounds_toArray, List.set_cons_zero, List.set_cons_succ, i64_w, i32_w]
            rfl
           refine pure_ (i := 8) (N := some 94) (v := ?_) (a' := ?_) #[true, true, true, true, true, true, true, true, true, false, false] rfl rfl (any_of HT_.out (by kernel_rfl)) (fun _ _ _ h => h) (Or.inl ⟨by rfl, ?_⟩) ?_ ?_
           rotate_left
           ·intro w'
            go_simp
            with_reducible rfl
           rotate_left
           ·simp only [Act.put, List.setIfInBounds_toArray, List.set_cons_zero, List.set_cons_succ, i64_w, i32_w]
            rfl
           refine one_ (i := 9) (N := none) #[true, true, true, true, true, true, true, true, true, true, false] rfl rfl (one_of HT_.out (by kernel_rfl)) (by decide) (fun K hK => ?_)
           have hs129 : w128.cell? ⟨gb362, 0, none⟩ = some (.bool false) := (blk_cell BK362.out 0).trans rfl
           have hfs129 := blk_frozen BK362.out 0
           have hns129_0 := NB360_362.out
           have hns129_1 := NB361_362.out
           have hns129_3 := NB369_362.out
           have hns129_4 := NB376_362.out
           have hms129_0 := NB362_360.out
           have hms129_1 := NB362_361.out
           have hms129_3 := NB362_369.out
           have hms129_4 := NB362_376.out
           have hs131 : w128.cell? ⟨gb362, 1, none⟩ = some (.slice none 0 0) := (blk_cell BK362.out 1).trans rfl
           have hfs131 := blk_frozen BK362.out 1
           have hns131_0 := NB360_362.out
           have hns131_1 := NB361_362.out
           have hns131_3 := NB369_362.out
           have hns131_4 := NB376_362.out
           have hms131_0 := NB362_360.out
           have hms131_1 := NB362_361.out
           have hms131_3 := NB362_369.out
           have hms131_4 := NB362_376.out
           have hs132 : w128.cell? ⟨gb362, 2, none⟩ = some (.int .i64 0) := (blk_cell BK362.out 2).trans rfl
           have hfs132 := blk_frozen BK362.out 2
           have hns132_0 := NB360_362.out
           have hns132_1 := NB361_362.out
           have hns132_3 := NB369_362.out
           have hns132_4 := NB376_362.out
           have hms132_0 := NB362_360.out
           have hms132_1 := NB362_361.out
           have hms132_3 := NB362_369.out
           have hms132_4 := NB362_376.out
           refine skip_ (w1 := ?_) (by rfl) rfl ?_ ?_
           rotate_left
           ·go_simp
            rfl
           refine hK.out _ _ ⟨((cell_far (p := ⟨gb362, _, none⟩) NB369_362.out _).trans (((cell_far (p := ⟨gb362, _, none⟩) NB369_362.out _).trans (((cell_far (p := ⟨gb362, _, none⟩) NB369_362.out _).trans (hHeld.1)))))), ((cell_far (p := ⟨gb362, _, none⟩) NB369_362.out _).trans (((cell_far (p := ⟨gb362, _, none⟩) NB369_362.out _).trans (((cell_far (p := ⟨gb362, _, none⟩) NB369_362.out _).trans (hHeld.2.1)))))), ((cell_far (p := ⟨gb362, _, none⟩) NB369_362.out _).trans (((cell_far (p := ⟨gb362, _, none⟩) NB369_362.out _).trans (((cell_far (p := ⟨gb362, _, none⟩) NB369_362.out _).trans (hHeld.2.2))))))⟩ (fun hHeld => ?_)
           clear hK K
           refine pure_ (i := 10) (N := some 5) (v := ?_) (a' := ?_) #[true, true, true, true, true, true, true, true, true, true, true] rfl rfl (any_of HT_.out (by kernel_rfl)) (fun _ _ _ h => h) (Or.inl ⟨by rfl, ?_⟩) ?_ ?_
           rotate_left
           ·intro w'
            go_simp
            with_reducible rfl
           rotate_left
           ·simp only [Act.put, List.setIfInBounds_toArray, List.set_cons_zero, List.set_cons_succ, i64_w, i32_w]
            rfl
           refine done_ (done_of HT_.out (by kernel_rfl)) ?_
           try go_wp2
           refine bodyPost_ret (results_ct rfl _ _ gb362 43 #[.bool t396, .slice Ao130 t397.length co130, .int .i64 t400] (0, 0) _ rfl (by (with_reducible repeat (first | apply bN | apply bD | apply bA)); refine blk_put (cs := #[.bool t396, .slice Ao130 t397.length co130, .int .i64 0]) ?_ 2 _ rfl; (with_reducible repeat (first | apply bN | apply bD | apply bA)); refine blk_put (cs := #[.bool t396, .slice none 0 0, .int .i64 0]) ?_ 1 _ rfl; (with_reducible repeat (first | apply bN | apply bD | apply bA)); refine blk_put (cs := #[.bool false, .slice none 0 0, .int .i64 0]) ?_ 0 _ rfl; (with_reducible repeat (first | apply bN | apply bD | apply bA)); exact BK362.out) Try.underlying43 rfl (by kernel_rfl)) rfl ?_
           exact ⟨_, by first | rfl | (simp [errW_none, errW_some] <;> rfl) | (simp only [← hji62]; first | rfl | (simp [errW_none, errW_some] <;> rfl)) | (simp [*, errW_none, errW_some] <;> rfl), by (with_reducible repeat (first | apply rA | apply rN | apply rD)); exact Kd.R_mono (Kd.R_far (p := ⟨gb362, 2, none⟩) (Kd.R_far (p := ⟨gb362, 1, none⟩) (Kd.R_far (p := ⟨gb362, 0, none⟩) (Kd.R_types HO399.out BK362.out (by decide)) (fun _ hk => hk.2) (.bool t396)) (fun _ hk => hk.2) (.slice Ao130 t397.length co130)) (fun _ hk => hk.2) (.int .i64 t400)) (fun _ hk => trivial), bl_ HB⟩
          ·rw [if_neg c111] at H
           have c111b0 : decide (0 ≤ t392) = false := decide_eq_false c111
           clear c111
           obtain ⟨t402, A133, H⟩ := ob_ H
           try dsimp only at H
           obtain ⟨⟨t405, t406, t409, t410⟩, A134, H⟩ := ob_ H
           try dsimp only at H
           simp only [Option.some.injEq, Prod.mk.injEq] at H
           obtain ⟨rfl, rfl, rfl, rfl⟩ := H
           have hnb135 := NB369_360.out
           have hnc135 := NB360_369.out
           have hnb136 := NB369_361.out
           have hnc136 := NB361_369.out
           have hnb137 := NB369_362.out
           have hnc137 := NB362_369.out
           have hnb138 := NB369_376.out
           have hnc138 := NB376_369.out
           have hcz139_0 : wc.cell? ⟨gb369, 0, none⟩ = some (.bool t363) := (blk_cell BK369.out 0).trans rfl
           have hcz139_1 : wc.cell? ⟨gb369, 1, none⟩ = some (.slice Ao18 t364.length co18) := (blk_cell BK369.out 1).trans rfl
           have hcz139_2 : wc.cell? ⟨gb369, 2, none⟩ = some (.int .i64 t367) := (blk_cell BK369.out 2).trans rfl
           have hfz139_0 := blk_frozen BK369.out 0
           have hfz139_1 := blk_frozen BK369.out 1
           have hfz139_2 := blk_frozen BK369.out 2
           have hnb140 := NB376_360.out
           have hnc140 := NB360_376.out
           have hnb141 := NB376_361.out
           have hnc141 := NB361_376.out
           have hnb142 := NB376_362.out
           have hnc142 := NB362_376.out
           have hcz143_0 : wc.cell? ⟨gb376, 0, none⟩ = some (.bool t370) := (blk_cell BK376.out 0).trans rfl
           have hcz143_1 : wc.cell? ⟨gb376, 1, none⟩ = some (.slice Ao28 t371.length co28) := (blk_cell BK376.out 1).trans rfl
           have hcz143_2 : wc.cell? ⟨gb376, 2, none⟩ = some (.int .i64 t374) := (blk_cell BK376.out 2).trans rfl
           have hfz143_0 := blk_frozen BK376.out 0
           have hfz143_1 := blk_frozen BK376.out 1
           have hfz143_2 := blk_frozen BK376.out 2
           obtain ⟨Ao144, co144, eo144⟩ := Kd.R_slice HO_11.out
           subst eo144
           obtain ⟨Ao145, co145, eo145⟩ := Kd.R_slice HO_12.out
           subst eo145
           try go_wp2_with (first | ((with_reducible refine gate_callee (f := 61) rfl ?_); refine goesM (some 84) Try.func61 #[.slice Ao144 t377.length co144, .slice Ao145 t380.length co145] ?_; (with_reducible refine (steelyardref02_Cmp.calls kj64 _ _ t377 _ _ t380 t392 _ ?side1 ?side2 ?side3 ?side4 A110.out).mono ?_); (case side1 => repeat (first | exact (Kd.R_reads' HO_11.out).2.2 | (with_reducible first | apply cA | apply cN | apply cD))); (case side2 => exact (Kd.R_reads' HO_11.out).2.1); (case side3 => repeat (first | exact (Kd.R_reads' HO_12.out).2.2 | (with_reducible first | apply cA | apply cN | apply cD))); (case side4 => exact (Kd.R_reads' HO_12.out).2.1); rintro e w' ⟨rfl, ⟨nd, rfl⟩⟩; refine ⟨_, rfl, ?_⟩; (try (rw [drewN_self wc]; generalize hq_ : World.drewN wc _ = wc; have n0_ : Aside0 (Kd.R (Kd.int .u32) 72 wc w.heap.size (fun k_ => some k_ ≠ (.slice Ao145 t380.length co145 : Value).ownBlock ∧ some k_ ≠ (.slice Ao18 t364.length co18 : Value).ownBlock ∧ some k_ ≠ (.slice Ao28 t371.length co28 : Value).ownBlock) (.slice Ao144 t377.length co144) t377) := ⟨by rw [← hq_]; exact (by (with_reducible repeat (first | apply rA | apply rN | apply rD)); exact HO_11.out)⟩; have n1_ : Aside0 (Kd.R (Kd.int .u32) 72 wc w.heap.size (fun k_ => some k_ ≠ (.slice Ao144 t377.length co144 : Value).ownBlock ∧ some k_ ≠ (.slice Ao18 t364.length co18 : Value).ownBlock ∧ some k_ ≠ (.slice Ao28 t371.length co28 : Value).ownBlock) (.slice Ao145 t380.length co145) t380) := ⟨by rw [← hq_]; exact (by (with_reducible repeat (first | apply rA | apply rN | apply rD)); exact HO_12.out)⟩; have n2_ : Aside0 (Kd.R (Kd.int .u32) 72 wc w.heap.size (fun k_ => some k_ ≠ (.slice Ao144 t377.length co144 : Value).ownBlock ∧ some k_ ≠ (.slice Ao145 t380.length co145 : Value).ownBlock ∧ some k_ ≠ (.slice Ao28 t371.length co28 : Value).ownBlock) (.slice Ao18 t364.length co18) t364) := ⟨by rw [← hq_]; exact (by (with_reducible repeat (first | apply rA | apply rN | apply rD)); exact HO_370001.out)⟩; have n3_ : Aside0 (Kd.R (Kd.int .u32) 72 wc w.heap.size (fun k_ => some k_ ≠ (.slice Ao144 t377.length co144 : Value).ownBlock ∧ some k_ ≠ (.slice Ao145 t380.length co145 : Value).ownBlock ∧ some k_ ≠ (.slice Ao18 t364.length co18 : Value).ownBlock) (.slice Ao28 t371.length co28) t371) := ⟨by rw [← hq_]; exact (by (with_reducible repeat (first | apply rA | apply rN | apply rD)); exact HO_377001.out)⟩; have n4_ : Aside0 (wc.heap[gb360]? = some (.cells #[.bool a0_0, .slice A0_1 l0_1.length c0_1, .int .i64 a0_2] 43 (0, 0))) := ⟨by rw [← hq_]; exact (bk_ BK360)⟩; have n5_ : Aside0 (wc.heap[gb361]? = some (.cells #[.bool a1_0, .slice A1_1 l1_1.length c1_1, .int .i64 a1_2] 43 (0, 0))) := ⟨by rw [← hq_]; exact (bk_ BK361)⟩; have n6_ : Aside0 (wc.heap[gb362]? = some (.cells #[.bool false, .slice none 0 0, .int .i64 0] 43 (0, 0))) := ⟨by rw [← hq_]; exact (bk_ BK362)⟩; have n7_ : Aside0 (wc.heap[gb369]? = some (.cells #[.bool t363, .slice Ao18 t364.length co18, .int .i64 t367] 43 (0, 0))) := ⟨by rw [← hq_]; exact (bk_ BK369)⟩; have n8_ : Aside0 (wc.heap[gb376]? = some (.cells #[.bool t370, .slice Ao28 t371.length co28, .int .i64 t374] 43 (0, 0))) := ⟨by rw [← hq_]; exact (bk_ BK376)⟩; have n9_ : Aside0 (Below w.heap.size w wc) := ⟨by rw [← hq_]; exact (bl_ HB)⟩; clear HO_11 HO_12 HO_370001 HO_377001 BK360 BK361 BK362 BK369 BK376 HB hq_; have HO_11 := n0_; have HO_12 := n1_; have HO_370001 := n2_; have HO_377001 := n3_; have BK360 := n4_; have BK361 := n5_; have BK362 := n6_; have BK369 := n7_; have BK376 := n8_; have HB := n9_; clear n0_ n1_ n2_ n3_ n4_ n5_ n6_ n7_ n8_ n9_))))
           have n0_ := Aside0.mk (Kd.R_drew HO_11.out)
           have n1_ := Aside0.mk (Kd.R_drew HO_12.out)
           have n2_ := Aside0.mk (Kd.R_drew HO_370001.out)
           have n3_ := Aside0.mk (Kd.R_drew HO_377001.out)
           have n4_ := Aside0.mk (blk_drew BK360.out)
           have n5_ := Aside0.mk (blk_drew BK361.out)
           have n6_ := Aside0.mk (blk_drew BK362.out)
           have n7_ := Aside0.mk (blk_drew BK369.out)
           have n8_ := Aside0.mk (blk_drew BK376.out)
           have n9_ := Aside0.mk (below_drew1 HB.out)
           clear HO_11
           clear HO_12
           clear HO_370001
           clear HO_377001
           clear BK360
           clear BK361
           clear BK362
           clear BK369
           clear BK376
           clear HB
           have HO_11 := n0_
           have HO_12 := n1_
           have HO_370001 := n2_
           have HO_377001 := n3_
           have BK360 := n4_
           have BK361 := n5_
           have BK362 := n6_
           have BK369 := n7_
           have BK376 := n8_
           have HB := n9_
           clear n0_ n1_ n2_ n3_ n4_ n5_ n6_ n7_ n8_ n9_
           refine start_ (n := 11) (S := fun w' => w'.cell? ⟨gb376, 0, none⟩ = some (.bool t370) ∧ w'.cell? ⟨gb376, 1, none⟩ = some (.slice Ao28 t371.length co28) ∧ w'.cell? ⟨gb376, 2, none⟩ = some (.int .i64 t374)) (ds := []) #[false, false, false, false, false, false, false, false, false, false, false] (by kernel_rfl) rfl rfl ⟨(blk_cell BK376.out 0).trans rfl, (blk_cell BK376.out 1).trans rfl, (blk_cell BK376.out 2).trans rfl⟩ (fun hHeld => ?_); refine with_tabW steelyardref03_Add.tab18 steelyardref03_Add.bits18 (fun HT_ HW_ => ?_)
           generalize wc.drew = w146 at HO_11 HO_12 HO_370001 HO_377001 BK360 BK361 BK362 BK369 BK376 HB hHeld ⊢
           refine pure_ (i := 0) (N := some 95) (v := ?_) (a' := ?_) #[true, false, false, false, false, false, false, false, false, false, false] rfl rfl (any_of HT_.out (by kernel_rfl)) (fun _ _ _ h => h) (Or.inl ⟨by rfl, ?_⟩) ?_ ?_
           rotate_left
           ·intro w'
            go_simp
            with_reducible rfl
           rotate_left
           ·simp only [Act.put, List.setIfInBounds_toArray, List.set_cons_zero, List.set_cons_succ, i64_w, i32_w]
            rfl
           refine pure_ (i := 2) (N := some 97) (v := ?_) (a' := ?_) #[true, false, true, false, false, false, false, false, false, false, false] rfl rfl (any_of HT_.out (by kernel_rfl)) (fun _ _ _ h => h) (Or.inl ⟨by rfl, ?_⟩) ?_ ?_
           rotate_left
           ·intro w'
            go_simp
            with_reducible rfl
           rotate_left
           ·simp only [Act.put, List.setIfInBounds_toArray, List.set_cons_zero, List.set_cons_succ, i64_w, i32_w]
            rfl
           refine pure_ (i := 3) (N := some 98) (v := ?_) (a' := ?_) #[true, false, true, true, false, false, false, false, false, false, false] rfl rfl (any_of HT_.out (by kernel_rfl)) (fun _ _ _ h => h) (Or.inl ⟨by rfl, ?_⟩) ?_ ?_
           rotate_left
           ·intro w'
            go_simp
            with_reducible rfl
           rotate_left
           ·simp only [Act.put, List.setIfInBounds_toArray, List.set_cons_zero, List.set_cons_succ, i64_w, i32_w]
            rfl
           refine pure_ (i := 5) (N := some 100) (v := ?_) (a' := ?_) #[true, false, true, true, false, true, false, false, false, false, false] rfl rfl (any_of HT_.out (by kernel_rfl)) (fun _ _ _ h => h) (Or.inl ⟨by rfl, ?_⟩) ?_ ?_
           rotate_left
           ·intro w'
            go_simp
            with_reducible rfl
           rotate_left
           ·simp only [Act.put, List.setIfInBounds_toArray, List.set_cons_zero, List.set_cons_succ, i64_w, i32_w]
            rfl
           refine take_ (i := 1) (N := some 96) (v := ?_) (a' := ?_) #[true, true, true, true, false, true, false, false, false, false, false] rfl rfl (take_ofW HT_.out HW_.out (by kernel_rfl)) (fun _ _ _ h => h) (Or.inl ⟨by rfl, ?_⟩) hHeld ?_ ?_
           rotate_left
           ·rintro w' ⟨s0, s1, s2⟩
            go_simp
            with_reducible rfl
           rotate_left
           ·simp only [Act.put, List.setIfInBounds_toArray, List.set_cons_zero, List.set_cons_succ, i64_w, i32_w]
            rfl
           refine one_ (i := 4) (N := some 99) #[true, true, true, true, true, true, false, false, false, false, false] rfl rfl (one_of HT_.out (by kernel_rfl)) (by decide) (fun K hK => ?_)
           refine goes_ Try.func62 (by kernel_rfl) rfl #[.slice Ao145 t380.length co145, .slice Ao144 t377.length co144] (by rfl) rfl rfl (by (try simp only [List.map_toArray, List.map_cons, List.map_nil]); first | done | rfl | (simp only [List.length_drop, List.length_take]; rfl)) ?_
           with_reducible refine (steelyardref02_Minus.calls kj64 _ _ t380 _ _ t377 t402 _ ?side1 ?side2 ?side3 ?side4 A133.out).mono ?_
           (case side1 => repeat (first | exact (Kd.R_reads' HO_12.out).2.2 | (with_reducible first | apply cA | apply cN | apply cD)))
           (case side2 => exact (Kd.R_reads' HO_12.out).2.1)
           (case side3 => repeat (first | exact (Kd.R_reads' HO_11.out).2.2 | (with_reducible first | apply cA | apply cN | apply cD)))
           (case side4 => exact (Kd.R_reads' HO_11.out).2.1)
           rintro e w147 ⟨v403, rfl, ho0, hb⟩
           refine ⟨_, rfl, ?_⟩
           have n0_ := Aside0.mk (Kd.R_elder' (by (with_reducible repeat (first | apply rA | apply rN | apply rD)); exact HO_11.out) (Kd.R_base ho0) hb)
           have n1_ := Aside0.mk (Kd.R_elder' (by (with_reducible repeat (first | apply rA | apply rN | apply rD)); exact HO_12.out) (Kd.R_base ho0) hb)
           have n2_ := Aside0.mk (Kd.R_elder' (by (with_reducible repeat (first | apply rA | apply rN | apply rD)); exact HO_370001.out) (Kd.R_base ho0) hb)
           have n3_ := Aside0.mk (Kd.R_elder' (by (with_reducible repeat (first | apply rA | apply rN | apply rD)); exact HO_377001.out) (Kd.R_base ho0) hb)
           have n4_ := Aside0.mk (Kd.R_lower (Kd.R_new' (Kd.R_new' (Kd.R_new' (Kd.R_new' ho0 (Kd.R_lt (by (with_reducible repeat (first | apply rA | apply rN | apply rD)); exact HO_11.out))) (Kd.R_lt (by (with_reducible repeat (first | apply rA | apply rN | apply rD)); exact HO_12.out))) (Kd.R_lt (by (with_reducible repeat (first | apply rA | apply rN | apply rD)); exact HO_370001.out))) (Kd.R_lt (by (with_reducible repeat (first | apply rA | apply rN | apply rD)); exact HO_377001.out))) (below_size (bl_ HB)))
           have n5_ := kb_ BK360 hb
           have n6_ := kb_ BK361 hb
           have n7_ := kb_ BK362 hb
           have n8_ := kb_ BK369 hb
           have n9_ := kb_ BK376 hb
           have n10_ := bs_ HB hb
           clear HO_11
           clear HO_12
           clear HO_370001
           clear HO_377001
           clear BK360
           clear BK361
           clear BK362
           clear BK369
           clear BK376
           clear HB
           have HO_11 := n0_
           have HO_12 := n1_
           have HO_370001 := n2_
           have HO_377001 := n3_
           have HO404 := n4_
           have BK360 := n5_
           have BK361 := n6_
           have BK362 := n7_
           have BK369 := n8_
           have BK376 := n9_
           have HB := n10_
           clear n0_ n1_ n2_ n3_ n4_ n5_ n6_ n7_ n8_ n9_ n10_
           (try clear hb)
           (try clear hb2)
           (try clear hk)
           (try clear hi)
           (try clear ho0)
           obtain ⟨Ao148, co148, eo148⟩ := Kd.R_slice HO404.out
           (first | subst eo148 | (injection eo148 with f1_ f2_ f3_; have f4_ := f1_.symm; have f5_ := f3_.symm; clear f1_ f2_ f3_; subst f4_; subst f5_))
           refine hK.out _ _ ⟨(blk_cell BK376.out 0).trans rfl, (blk_cell BK376.out 1).trans rfl, (blk_cell BK376.out 2).trans rfl⟩ (fun hHeld => ?_)
           clear hK K
           refine norm_ (a' := ?_) ?_ ?_
           rotate_left
           ·show Act.put _ (some 99) _ = _
            simp only [Act.put, List.setIfInBounds_toArray, List.set_cons_zero, List.set_cons_succ, i64_w, i32_w]
            rfl
           refine one_ (i := 6) (N := some 101) #[true, true, true, true, true, true, true, false, false, false, false] rfl rfl (one_of HT_.out (by kernel_rfl)) (by decide) (fun K hK => ?_)
           refine goes_ Try.func59 (by kernel_rfl) rfl #[.bool t370, .slice Ao148 t402.length co148, .int .i64 ji62] (by rfl) rfl rfl (by (try simp only [List.map_toArray, List.map_cons, List.map_nil]); first | done | (simp only [hji62]; rfl) | rfl | (simp only [List.length_drop, List.length_take]; rfl)) ?_
           with_reducible refine (steelyardref03_told.calls kj64 t370 _ _ t402 ji62 t405 t406 t409 t410 _ ?side1 ?side2 A134.out).mono ?_
           (case side1 => repeat (first | exact (Kd.R_reads' HO404.out).2.2 | (with_reducible first | apply cA | apply cN | apply cD)))
           (case side2 => exact (Kd.R_reads' HO404.out).2.1)
           rintro e w149 ⟨v407, rfl, ho0, hb⟩
           refine ⟨_, rfl, ?_⟩
           have n0_ := Aside0.mk (Kd.R_elder' (by (with_reducible repeat (first | apply rA | apply rN | apply rD)); exact HO_11.out) (Kd.R_base ho0) hb)
           have n1_ := Aside0.mk (Kd.R_elder' (by (with_reducible repeat (first | apply rA | apply rN | apply rD)); exact HO_12.out) (Kd.R_base ho0) hb)
           have n2_ := Aside0.mk (Kd.R_elder' (by (with_reducible repeat (first | apply rA | apply rN | apply rD)); exact HO_370001.out) (Kd.R_base ho0) hb)
           have n3_ := Aside0.mk (Kd.R_elder' (by (with_reducible repeat (first | apply rA | apply rN | apply rD)); exact HO_377001.out) (Kd.R_base ho0) hb)
           have n4_ := Aside0.mk (Kd.R_elder' (by (with_reducible repeat (first | apply rA | apply rN | apply rD)); exact HO404.out) (Kd.R_base ho0) hb)
           have n5_ := Aside0.mk (Kd.R_lower (Kd.R_new' (Kd.R_new' (Kd.R_new' (Kd.R_new' (Kd.R_new' ho0 (Kd.R_lt (by (with_reducible repeat (first | apply rA | apply rN | apply rD)); exact HO_11.out))) (Kd.R_lt (by (with_reducible repeat (first | apply rA | apply rN | apply rD)); exact HO_12.out))) (Kd.R_lt (by (with_reducible repeat (first | apply rA | apply rN | apply rD)); exact HO_370001.out))) (Kd.R_lt (by (with_reducible repeat (first | apply rA | apply rN | apply rD)); exact HO_377001.out))) (Kd.R_lt (by (with_reducible repeat (first | apply rA | apply rN | apply rD)); exact HO404.out))) (below_size (bl_ HB)))
           have n6_ := kb_ BK360 hb
           have n7_ := kb_ BK361 hb
           have n8_ := kb_ BK362 hb
           have n9_ := kb_ BK369 hb
           have n10_ := kb_ BK376 hb
           have n11_ := bs_ HB hb
           clear HO_11
           clear HO_12
           clear HO_370001
           clear HO_377001
           clear HO404
           clear BK360
           clear BK361
           clear BK362
           clear BK369
           clear BK376
           clear HB
           have HO_11 := n0_
           have HO_12 := n1_
           have HO_370001 := n2_
           have HO_377001 := n3_
           have HO404 := n4_
           have HO408 := n5_
           have BK360 := n6_
           have BK361 := n7_
           have BK362 := n8_
           have BK369 := n9_
           have BK376 := n10_
           have HB := n11_
           clear n0_ n1_ n2_ n3_ n4_ n5_ n6_ n7_ n8_ n9_ n10_ n11_
           (try clear hb)
           (try clear hb2)
           (try clear hk)
           (try clear hi)
           (try clear ho0)
           obtain ⟨Ao151, co151, eo151⟩ := Kd.R_slice HO408.out
           (first | subst eo151 | (injection eo151 with f1_ f2_ f3_; have f4_ := f1_.symm; have f5_ := f3_.symm; clear f1_ f2_ f3_; subst f4_; subst f5_))
           refine hK.out _ _ ⟨(blk_cell BK376.out 0).trans rfl, (blk_cell BK376.out 1).trans rfl, (blk_cell BK376.out 2).trans rfl⟩ (fun hHeld => ?_)
           clear hK K
           refine norm_ (a' := ?_) ?_ ?_
           rotate_left
           ·show Act.put _ (some 101) _ = _
            simp only [Act.put, List.setIfInBounds_toArray, List.set_cons_zero, List.set_cons_succ, i64_w, i32_w]
            rfl
           refine pure_ (i := 7) (N := some 102) (v := ?_) (a' := ?_) #[true, true, true, true, true, true, true, true, false, false, false] rfl rfl (any_of HT_.out (by kernel_rfl)) (fun _ _ _ h => h) (Or.inl ⟨by rfl, ?_⟩) ?_ ?_
           rotate_left
           ·intro w'
            go_simp
            with_reducible rfl
           rotate_left
           ·simp only [Act.put, List.setIfInBounds_toArray, List.set_cons_zero, List.set_cons_succ, i64_w, i32_w]
            rfl
           refine pure_ (i := 8) (N := some 103) (v := ?_) (a' := ?_) #[true, true, true, true, true, true, true, true, true, false, false] rfl rfl (any_of HT_.out (by kernel_rfl)) (fun _ _ _ h => h) (Or.inl ⟨by rfl, ?_⟩) ?_ ?_
           rotate_left
           ·intro w'
            go_simp
            with_reducible rfl
           rotate_left
           ·simp only [Act.put, List.setIfInBounds_toArray, List.set_cons_zero, List.set_cons_succ, i64_w, i32_w]
            rfl
           refine one_ (i := 9) (N := none) #[true, true, true, true, true, true, true, true, true, true, false] rfl rfl (one_of HT_.out (by kernel_rfl)) (by decide) (fun K hK => ?_)
           have hs150 : w149.cell? ⟨gb362, 0, none⟩ = some (.bool false) := (blk_cell BK362.out 0).trans rfl
           have hfs150 := blk_frozen BK362.out 0
           have hns150_0 := NB360_362.out
           have hns150_1 := NB361_362.out
           have hns150_3 := NB369_362.out
           have hns150_4 := NB376_362.out
           have hms150_0 := NB362_360.out
           have hms150_1 := NB362_361.out
           have hms150_3 := NB362_369.out
           have hms150_4 := NB362_376.out
           have hs152 : w149.cell? ⟨gb362, 1, none⟩ = some (.slice none 0 0) := (blk_cell BK362.out 1).trans rfl
           have hfs152 := blk_frozen BK362.out 1
           have hns152_0 := NB360_362.out
           have hns152_1 := NB361_362.out
           have hns152_3 := NB369_362.out
           have hns152_4 := NB376_362.out
           have hms152_0 := NB362_360.out
           have hms152_1 := NB362_361.out
           have hms152_3 := NB362_369.out
           have hms152_4 := NB362_376.out
           have hs153 : w149.cell? ⟨gb362, 2, none⟩ = some (.int .i64 0) := (blk_cell BK362.out 2).trans rfl
           have hfs153 := blk_frozen BK362.out 2
           have hns153_0 := NB360_362.out
           have hns153_1 := NB361_362.out
           have hns153_3 := NB369_362.out
           have hns153_4 := NB376_362.out
           have hms153_0 := NB362_360.out
           have hms153_1 := NB362_361.out
           have hms153_3 := NB362_369.out
           have hms153_4 := NB362_376.out
           refine skip_ (w1 := ?_) (by rfl) rfl ?_ ?_
           rotate_left
           ·go_simp
            rfl
           refine hK.out _ _ ⟨((cell_far (p := ⟨gb362, _, none⟩) NB376_362.out _).trans (((cell_far (p := ⟨gb362, _, none⟩) NB376_362.out _).trans (((cell_far (p := ⟨gb362, _, none⟩) NB376_362.out _).trans (hHeld.1)))))), ((cell_far (p := ⟨gb362, _, none⟩) NB376_362.out _).trans (((cell_far (p := ⟨gb362, _, none⟩) NB376_362.out _).trans (((cell_far (p := ⟨gb362, _, none⟩) NB376_362.out _).trans (hHeld.2.1)))))), ((cell_far (p := ⟨gb362, _, none⟩) NB376_362.out _).trans (((cell_far (p := ⟨gb362, _, none⟩) NB376_362.out _).trans (((cell_far (p := ⟨gb362, _, none⟩) NB376_362.out _).trans (hHeld.2.2))))))⟩ (fun hHeld => ?_)
           clear hK K
           refine pure_ (i := 10) (N := some 5) (v := ?_) (a' := ?_) #[true, true, true, true, true, true, true, true, true, true, true] rfl rfl (any_of HT_.out (by kernel_rfl)) (fun _ _ _ h => h) (Or.inl ⟨by rfl, ?_⟩) ?_ ?_
           rotate_left
           ·intro w'
            go_simp
            with_reducible rfl
           rotate_left
           ·simp only [Act.put, List.setIfInBounds_toArray, List.set_cons_zero, List.set_cons_succ, i64_w, i32_w]
            rfl
           refine done_ (done_of HT_.out (by kernel_rfl)) ?_
           try go_wp2
           refine bodyPost_ret (results_ct rfl _ _ gb362 43 #[.bool t405, .slice Ao151 t406.length co151, .int .i64 t409] (0, 0) _ rfl (by (with_reducible repeat (first | apply bN | apply bD | apply bA)); refine blk_put (cs := #[.bool t405, .slice Ao151 t406.length co151, .int .i64 0]) ?_ 2 _ rfl; (with_reducible repeat (first | apply bN | apply bD | apply bA)); refine blk_put (cs := #[.bool t405, .slice none 0 0, .int .i64 0]) ?_ 1 _ rfl; (with_reducible repeat (first | apply bN | apply bD | apply bA)); refine blk_put (cs := #[.bool false, .slice none 0 0, .int .i64 0]) ?_ 0 _ rfl; (with_reducible repeat (first | apply bN | apply bD | apply bA)); exact BK362.out) Try.underlying43 rfl (by kernel_rfl)) rfl ?_
           exact ⟨_, by first | rfl | (simp [errW_none, errW_some] <;> rfl) | (simp only [← hji62]; first | rfl | (simp [errW_none, errW_some] <;> rfl)) | (simp [*, errW_none, errW_some] <;> rfl), by (with_reducible repeat (first | apply rA | apply rN | apply rD)); exact Kd.R_mono (Kd.R_far (p := ⟨gb362, 2, none⟩) (Kd.R_far (p := ⟨gb362, 1, none⟩) (Kd.R_far (p := ⟨gb362, 0, none⟩) (Kd.R_types HO408.out BK362.out (by decide)) (fun _ hk => hk.2) (.bool t405)) (fun _ hk => hk.2) (.slice Ao151 t406.length co151)) (fun _ hk => hk.2) (.int .i64 t409)) (fun _ hk => trivial), bl_ HB⟩

end Go.Proofs.Ytdemanikmaafeaa.Pr
