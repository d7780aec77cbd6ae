-- short
-- written by this session's own program (wip/fprint.py), which widens the kit's print by floats
import Derived.Test.YtdemanikmaafeaaPr0
import Derived.Test.YtdemanikmaafeaaPr1
import Derived.Test.YtdemanikmaafeaaPr2
namespace Go.Proofs.Ytdemanikmaafeaa.Pr
open Go.RowKit Go.Proofs.YtdemanikmaafeaaW.PrintWords Go.Proofs.YtdemanikmaafeaaW.PrintLast Go.Proofs.YtdemanikmaafeaaW.PrintMore
attribute [local go_sem] max2_int min2_int max_two min_two max_three min_three max_four min_four   -- for this text's walks alone
set_option linter.unusedVariables false
set_option linter.unusedSimpArgs false

/-! ### pair_Add: function 22 -/
def pair_Add.f (a0_0 : Nat) (a0_1 : Nat) (a1_0 : Nat) (a1_1 : Nat) : Option (Nat × Nat) := (pair_sum.f a0_0 a1_0).bind fun bt164 => ((pair_sum.f a0_1 a1_1).bind fun bt167 => ((pair_step.f 48 bt164.2 bt167.1).bind fun t170 => ((pair_quick.f bt164.1 t170).bind fun bt171 => ((pair_step.f 48 bt167.2 bt171.2).bind fun t174 => ((pair_quick.f bt171.1 t174).bind fun bt175 => ((pair_two_told.f bt175.1 bt175.2).bind fun bt177 => (some (bt177.1, bt177.2))))))))
def pair_Add.T3 : Bool × List (List Nat × List Nat) := (true, [([], []), ([0], [0]), ([], []), ([2], [2]), ([], []), ([4], [4]), ([3, 5], [3, 5]), ([1, 6, 6], [1, 6]), ([], []), ([8, 7, 7, 0, 1, 2, 3, 4, 5, 6, 7, 8], [7, 8])])
def pair_Add.B3 : List Nat := [0, 1, 0, 4, 0, 16, 60, 127, 0, 511]
theorem pair_Add.tab3 : rtab .any (opsOf Try.f22 3) = pair_Add.T3 := by kernel_rfl
theorem pair_Add.bits3 : waitsOk pair_Add.T3.2 pair_Add.B3 = true := by kernel_rfl
def pair_Add.T4 : Bool × List (List Nat × List Nat) := (true, [([], []), ([0], [0]), ([], []), ([2], [2]), ([], []), ([4], [4]), ([3, 5], [3, 5]), ([1, 6, 6], [1, 6]), ([7, 7], [7]), ([8, 8, 0, 1, 2, 3, 4, 5, 6, 7, 8], [8])])
def pair_Add.B4 : List Nat := [0, 1, 0, 4, 0, 16, 60, 127, 255, 511]
theorem pair_Add.tab4 : rtab .any (opsOf Try.f22 4) = pair_Add.T4 := by kernel_rfl
theorem pair_Add.bits4 : waitsOk pair_Add.T4.2 pair_Add.B4 = true := by kernel_rfl
set_option maxHeartbeats 3000000 in
set_option maxRecDepth 100000 in
theorem pair_Add.calls (a0_0 : Nat) (a0_1 : Nat) (a1_0 : Nat) (a1_1 : Nat) (r1 : Nat) (r2 : Nat) (w : World) (h : pair_Add.f a0_0 a0_1 a1_0 a1_1 = some (r1, r2)) :
  Calls Try.prog 22 #[.agg #[.float .f64 a0_0, .float .f64 a0_1], .agg #[.float .f64 a1_0, .float .f64 a1_1]] w fun e w' => e = .returned (.agg #[.float .f64 r1, .float .f64 r2]) ∧ Below w.heap.size w w' := by
 have hu30 := Try.underlying30
 have hu57 := Try.underlying57
 have HB := Aside0.mk (Below.refl w.heap.size w)
 have H : ((pair_sum.f a0_0 a1_0).bind fun bt164 => ((pair_sum.f a0_1 a1_1).bind fun bt167 => ((pair_step.f 48 bt164.2 bt167.1).bind fun t170 => ((pair_quick.f bt164.1 t170).bind fun bt171 => ((pair_step.f 48 bt167.2 bt171.2).bind fun t174 => ((pair_quick.f bt171.1 t174).bind fun bt175 => ((pair_two_told.f bt175.1 bt175.2).bind fun bt177 => (some (bt177.1, bt177.2))))))))) = some (r1, r2) := h
 clear h
 obtain ⟨⟨t164, t165⟩, A3, H⟩ := ob_ H
 try dsimp only at H
 obtain ⟨⟨t167, t168⟩, A4, H⟩ := ob_ H
 try dsimp only at H
 obtain ⟨t170, A5, H⟩ := ob_ H
 try dsimp only at H
 obtain ⟨⟨t171, t172⟩, A6, H⟩ := ob_ H
 try dsimp only at H
 obtain ⟨t174, A7, H⟩ := ob_ H
 try dsimp only at H
 obtain ⟨⟨t175, t176⟩, A8, H⟩ := ob_ H
 try dsimp only at H
 obtain ⟨⟨t177, t178⟩, A9, H⟩ := ob_ H
 try dsimp only at H
 simp only [Option.some.injEq, Prod.mk.injEq] at H
 obtain ⟨rfl, rfl⟩ := H
 go_enter Try.func22, Try.ntmps22
 try go_wp2_with (first | ((with_reducible refine gate_dst (N := 2) rfl ?_); refine box_event ?hg (N := 2) ?hd (cs := #[.float .f64 a0_0, .float .f64 a0_1]) (t := 30) ?hr ?_; (case hd => rfl); (case hg => rfl); (case hr => first | (go_simp; done) | (go_simp; rfl)); intro gb161 hg w10 hbox hb; have n0_ := bs_ HB hb; have n1_ := Aside0.mk (hbox); have n2_ := ge_ HB hg; have n3_ := ge_ HB hg; clear HB; have HB := n0_; have BK161 := n1_; have GW161 := n2_; have GE161 := n3_; clear n0_ n1_ n2_ n3_; clear hb hbox hg) | ((with_reducible refine gate_dst (N := 3) rfl ?_); refine box_event ?hg (N := 3) ?hd (cs := #[.float .f64 a1_0, .float .f64 a1_1]) (t := 30) ?hr ?_; (case hd => rfl); (case hg => rfl); (case hr => first | (go_simp; done) | (go_simp; rfl)); intro gb162 hg w11 hbox hb; have n0_ := kb_ BK161 hb; have n1_ := bs_ HB hb; have n2_ := Aside0.mk (hbox); have n3_ := ge_ HB hg; have n4_ := ge_ HB hg; have n5_ := nlt_ BK161 hg; have n6_ := ngt_ BK161 hg; clear BK161; clear HB; have BK161 := n0_; have HB := n1_; have BK162 := n2_; have GW162 := n3_; have GE162 := n4_; have NB161_162 := n5_; have NB162_161 := n6_; clear n0_ n1_ n2_ n3_ n4_ n5_ n6_; clear hb hbox hg) | ((with_reducible refine gate_dst (N := 4) rfl ?_); refine box_event ?hg (N := 4) ?hd (cs := #[.float .f64 0, .float .f64 0]) (t := 30) ?hr ?_; (case hd => rfl); (case hg => rfl); (case hr => first | (go_simp; done) | (go_simp; rfl)); intro gb163 hg w12 hbox hb; have n0_ := kb_ BK161 hb; have n1_ := kb_ BK162 hb; have n2_ := bs_ HB hb; have n3_ := Aside0.mk (hbox); have n4_ := ge_ HB hg; have n5_ := ge_ HB hg; have n6_ := nlt_ BK161 hg; have n7_ := ngt_ BK161 hg; have n8_ := nlt_ BK162 hg; have n9_ := ngt_ BK162 hg; clear BK161; clear BK162; clear HB; have BK161 := n0_; have BK162 := n1_; have HB := n2_; have BK163 := n3_; have GW163 := n4_; have GE163 := n5_; have NB161_163 := n6_; have NB163_161 := n7_; have NB162_163 := n8_; have NB163_162 := n9_; clear n0_ n1_ n2_ n3_ n4_ n5_ n6_ n7_ n8_ n9_; clear hb hbox hg; have hnb13 := NB161_162.out; have hnc13 := NB162_161.out; have hnb14 := NB161_163.out; have hnc14 := NB163_161.out; have hcz15_0 : w12.cell? ⟨gb161, 0, none⟩ = some (.float .f64 a0_0) := (blk_cell BK161.out 0).trans rfl; have hcz15_1 : w12.cell? ⟨gb161, 1, none⟩ = some (.float .f64 a0_1) := (blk_cell BK161.out 1).trans rfl; have hfz15_0 := blk_frozen BK161.out 0; have hfz15_1 := blk_frozen BK161.out 1; have hnb16 := NB162_163.out; have hnc16 := NB163_162.out; have hcz17_0 : w12.cell? ⟨gb162, 0, none⟩ = some (.float .f64 a1_0) := (blk_cell BK162.out 0).trans rfl; have hcz17_1 : w12.cell? ⟨gb162, 1, none⟩ = some (.float .f64 a1_1) := (blk_cell BK162.out 1).trans rfl; have hfz17_0 := blk_frozen BK162.out 0; have hfz17_1 := blk_frozen BK162.out 1) | ((with_reducible refine gate_callee (f := 39) rfl ?_); refine goesM (some 12) Try.func39 #[.float .f64 a0_0, .float .f64 a1_0] ?_; (with_reducible refine (pair_sum.calls a0_0 a1_0 t164 t165 _ A3.out).mono ?_); rintro e w18 ⟨rfl, hb⟩; refine ⟨_, rfl, ?_⟩; have n0_ := kb_ BK161 hb; have n1_ := kb_ BK162 hb; have n2_ := kb_ BK163 hb; have n3_ := bs_ HB hb; clear BK161; clear BK162; clear BK163; clear HB; have BK161 := n0_; have BK162 := n1_; have BK163 := n2_; have HB := n3_; clear n0_ n1_ n2_ n3_; (try clear hb); (try clear hb2); (try clear hk); (try clear hi)) | ((with_reducible refine gate_dst (N := 5) rfl ?_); refine box_event ?hg (N := 5) ?hd (cs := #[.float .f64 0, .float .f64 0]) (t := 57) ?hr ?_; (case hd => rfl); (case hg => rfl); (case hr => first | (go_simp; done) | (go_simp; rfl)); intro gb166 hg w19 hbox hb; have n0_ := kb_ BK161 hb; have n1_ := kb_ BK162 hb; have n2_ := kb_ BK163 hb; have n3_ := bs_ HB hb; have n4_ := Aside0.mk (hbox); have n5_ := ge_ HB hg; have n6_ := ge_ HB hg; have n7_ := nlt_ BK161 hg; have n8_ := ngt_ BK161 hg; have n9_ := nlt_ BK162 hg; have n10_ := ngt_ BK162 hg; have n11_ := nlt_ BK163 hg; have n12_ := ngt_ BK163 hg; clear BK161; clear BK162; clear BK163; clear HB; have BK161 := n0_; have BK162 := n1_; have BK163 := n2_; have HB := n3_; have BK166 := n4_; have GW166 := n5_; have GE166 := n6_; have NB161_166 := n7_; have NB166_161 := n8_; have NB162_166 := n9_; have NB166_162 := n10_; have NB163_166 := n11_; have NB166_163 := n12_; clear n0_ n1_ n2_ n3_ n4_ n5_ n6_ n7_ n8_ n9_ n10_ n11_ n12_; clear hb hbox hg; have hnb20 := NB166_161.out; have hnc20 := NB161_166.out; have hnb21 := NB166_162.out; have hnc21 := NB162_166.out; have hnb22 := NB166_163.out; have hnc22 := NB163_166.out; have hcz23_0 : w19.cell? ⟨gb166, 0, none⟩ = some (.float .f64 0) := (blk_cell BK166.out 0).trans rfl; have hcz23_1 : w19.cell? ⟨gb166, 1, none⟩ = some (.float .f64 0) := (blk_cell BK166.out 1).trans rfl; have hfz23_0 := blk_frozen BK166.out 0; have hfz23_1 := blk_frozen BK166.out 1; have hcz24_0 : w19.cell? ⟨gb161, 0, none⟩ = some (.float .f64 a0_0) := (blk_cell BK161.out 0).trans rfl; have hcz24_1 : w19.cell? ⟨gb161, 1, none⟩ = some (.float .f64 a0_1) := (blk_cell BK161.out 1).trans rfl; have hfz24_0 := blk_frozen BK161.out 0; have hfz24_1 := blk_frozen BK161.out 1; have hcz25_0 : w19.cell? ⟨gb162, 0, none⟩ = some (.float .f64 a1_0) := (blk_cell BK162.out 0).trans rfl; have hcz25_1 : w19.cell? ⟨gb162, 1, none⟩ = some (.float .f64 a1_1) := (blk_cell BK162.out 1).trans rfl; have hfz25_0 := blk_frozen BK162.out 0; have hfz25_1 := blk_frozen BK162.out 1) | ((with_reducible refine gate_callee (f := 39) rfl ?_); refine goesM (some 17) Try.func39 #[.float .f64 a0_1, .float .f64 a1_1] ?_; (with_reducible refine (pair_sum.calls a0_1 a1_1 t167 t168 _ A4.out).mono ?_); rintro e w26 ⟨rfl, hb⟩; refine ⟨_, rfl, ?_⟩; have n0_ := Aside0.mk (blk_below (g := gb161) (o := .cells #[.float .f64 a0_0, .float .f64 a0_1] 30 (0, 0)) (by (with_reducible repeat (first | apply bN | apply bD | apply bA)); refine blk_far ?_ NB161_166.out _; (with_reducible repeat (first | apply bN | apply bD | apply bA)); refine blk_far ?_ NB161_166.out _; (with_reducible repeat (first | apply bN | apply bD | apply bA)); exact BK161.out) hb); have n1_ := Aside0.mk (blk_below (g := gb162) (o := .cells #[.float .f64 a1_0, .float .f64 a1_1] 30 (0, 0)) (by (with_reducible repeat (first | apply bN | apply bD | apply bA)); refine blk_far ?_ NB162_166.out _; (with_reducible repeat (first | apply bN | apply bD | apply bA)); refine blk_far ?_ NB162_166.out _; (with_reducible repeat (first | apply bN | apply bD | apply bA)); exact BK162.out) hb); have n2_ := Aside0.mk (blk_below (g := gb163) (o := .cells #[.float .f64 0, .float .f64 0] 30 (0, 0)) (by (with_reducible repeat (first | apply bN | apply bD | apply bA)); refine blk_far ?_ NB163_166.out _; (with_reducible repeat (first | apply bN | apply bD | apply bA)); refine blk_far ?_ NB163_166.out _; (with_reducible repeat (first | apply bN | apply bD | apply bA)); exact BK163.out) hb); have n3_ := Aside0.mk (blk_below (g := gb166) (o := .cells #[.float .f64 t164, .float .f64 t165] 57 (0, 0)) (by (with_reducible repeat (first | apply bN | apply bD | apply bA)); refine blk_put (cs := #[.float .f64 t164, .float .f64 0]) ?_ 1 _ rfl; (with_reducible repeat (first | apply bN | apply bD | apply bA)); refine blk_put (cs := #[.float .f64 0, .float .f64 0]) ?_ 0 _ rfl; (with_reducible repeat (first | apply bN | apply bD | apply bA)); exact BK166.out) hb); have n4_ := bs_ HB hb; clear BK161; clear BK162; clear BK163; clear BK166; clear HB; have BK161 := n0_; have BK162 := n1_; have BK163 := n2_; have BK166 := n3_; have HB := n4_; clear n0_ n1_ n2_ n3_ n4_; (try clear hb); (try clear hb2); (try clear hk); (try clear hi)) | ((with_reducible refine gate_dst (N := 6) rfl ?_); refine box_event ?hg (N := 6) ?hd (cs := #[.float .f64 0, .float .f64 0]) (t := 57) ?hr ?_; (case hd => rfl); (case hg => rfl); (case hr => first | (go_simp; done) | (go_simp; rfl)); intro gb169 hg w27 hbox hb; have n0_ := kb_ BK161 hb; have n1_ := kb_ BK162 hb; have n2_ := kb_ BK163 hb; have n3_ := kb_ BK166 hb; have n4_ := bs_ HB hb; have n5_ := Aside0.mk (hbox); have n6_ := ge_ HB hg; have n7_ := ge_ HB hg; have n8_ := nlt_ BK161 hg; have n9_ := ngt_ BK161 hg; have n10_ := nlt_ BK162 hg; have n11_ := ngt_ BK162 hg; have n12_ := nlt_ BK163 hg; have n13_ := ngt_ BK163 hg; have n14_ := nlt_ BK166 hg; have n15_ := ngt_ BK166 hg; clear BK161; clear BK162; clear BK163; clear BK166; clear HB; have BK161 := n0_; have BK162 := n1_; have BK163 := n2_; have BK166 := n3_; have HB := n4_; have BK169 := n5_; have GW169 := n6_; have GE169 := n7_; have NB161_169 := n8_; have NB169_161 := n9_; have NB162_169 := n10_; have NB169_162 := n11_; have NB163_169 := n12_; have NB169_163 := n13_; have NB166_169 := n14_; have NB169_166 := n15_; clear n0_ n1_ n2_ n3_ n4_ n5_ n6_ n7_ n8_ n9_ n10_ n11_ n12_ n13_ n14_ n15_; clear hb hbox hg; have hnb28 := NB169_161.out; have hnc28 := NB161_169.out; have hnb29 := NB169_162.out; have hnc29 := NB162_169.out; have hnb30 := NB169_163.out; have hnc30 := NB163_169.out; have hnb31 := NB169_166.out; have hnc31 := NB166_169.out; have hcz32_0 : w27.cell? ⟨gb169, 0, none⟩ = some (.float .f64 0) := (blk_cell BK169.out 0).trans rfl; have hcz32_1 : w27.cell? ⟨gb169, 1, none⟩ = some (.float .f64 0) := (blk_cell BK169.out 1).trans rfl; have hfz32_0 := blk_frozen BK169.out 0; have hfz32_1 := blk_frozen BK169.out 1))
 have n0_ : Aside0 (((w27.setCell ⟨gb169, 0, none⟩ (.float .f64 t167)).setCell ⟨gb169, 1, none⟩ (.float .f64 t168)).heap[gb161]? = some (.cells #[.float .f64 a0_0, .float .f64 a0_1] 30 (0, 0))) := ⟨by (with_reducible repeat (first | apply bN | apply bD | apply bA)); refine blk_far ?_ NB161_169.out _; (with_reducible repeat (first | apply bN | apply bD | apply bA)); refine blk_far ?_ NB161_169.out _; (with_reducible repeat (first | apply bN | apply bD | apply bA)); exact BK161.out⟩
 have n1_ : Aside0 (((w27.setCell ⟨gb169, 0, none⟩ (.float .f64 t167)).setCell ⟨gb169, 1, none⟩ (.float .f64 t168)).heap[gb162]? = some (.cells #[.float .f64 a1_0, .float .f64 a1_1] 30 (0, 0))) := ⟨by (with_reducible repeat (first | apply bN | apply bD | apply bA)); refine blk_far ?_ NB162_169.out _; (with_reducible repeat (first | apply bN | apply bD | apply bA)); refine blk_far ?_ NB162_169.out _; (with_reducible repeat (first | apply bN | apply bD | apply bA)); exact BK162.out⟩
 have n2_ : Aside0 (((w27.setCell ⟨gb169, 0, none⟩ (.float .f64 t167)).setCell ⟨gb169, 1, none⟩ (.float .f64 t168)).heap[gb163]? = some (.cells #[.float .f64 0, .float .f64 0] 30 (0, 0))) := ⟨by (with_reducible repeat (first | apply bN | apply bD | apply bA)); refine blk_far ?_ NB163_169.out _; (with_reducible repeat (first | apply bN | apply bD | apply bA)); refine blk_far ?_ NB163_169.out _; (with_reducible repeat (first | apply bN | apply bD | apply bA)); exact BK163.out⟩
 have n3_ : Aside0 (((w27.setCell ⟨gb169, 0, none⟩ (.float .f64 t167)).setCell ⟨gb169, 1, none⟩ (.float .f64 t168)).heap[gb166]? = some (.cells #[.float .f64 t164, .float .f64 t165] 57 (0, 0))) := ⟨by (with_reducible repeat (first | apply bN | apply bD | apply bA)); refine blk_far ?_ NB166_169.out _; (with_reducible repeat (first | apply bN | apply bD | apply bA)); refine blk_far ?_ NB166_169.out _; (with_reducible repeat (first | apply bN | apply bD | apply bA)); exact BK166.out⟩
 have n4_ : Aside0 (((w27.setCell ⟨gb169, 0, none⟩ (.float .f64 t167)).setCell ⟨gb169, 1, none⟩ (.float .f64 t168)).heap[gb169]? = some (.cells #[.float .f64 t167, .float .f64 t168] 57 (0, 0))) := ⟨by (with_reducible repeat (first | apply bN | apply bD | apply bA)); refine blk_put (cs := #[.float .f64 t167, .float .f64 0]) ?_ 1 _ rfl; (with_reducible repeat (first | apply bN | apply bD | apply bA)); refine blk_put (cs := #[.float .f64 0, .float .f64 0]) ?_ 0 _ rfl; (with_reducible repeat (first | apply bN | apply bD | apply bA)); exact BK169.out⟩
 have n5_ : Aside0 (Below w.heap.size w ((w27.setCell ⟨gb169, 0, none⟩ (.float .f64 t167)).setCell ⟨gb169, 1, none⟩ (.float .f64 t168))) := ⟨bl_ HB⟩
 (try clear BK161)
 (try clear BK162)
 (try clear BK163)
 (try clear BK166)
 (try clear BK169)
 (try clear HB)
 generalize ((w27.setCell ⟨gb169, 0, none⟩ (.float .f64 t167)).setCell ⟨gb169, 1, none⟩ (.float .f64 t168)) = w33 at n0_ n1_ n2_ n3_ n4_ n5_ ⊢
 have BK161 := n0_
 have BK162 := n1_
 have BK163 := n2_
 have BK166 := n3_
 have BK169 := n4_
 have HB := n5_
 clear n0_ n1_ n2_ n3_ n4_ n5_
 have n0_ := Aside0.mk (blk_drew BK161.out)
 have n1_ := Aside0.mk (blk_drew BK162.out)
 have n2_ := Aside0.mk (blk_drew BK163.out)
 have n3_ := Aside0.mk (blk_drew BK166.out)
 have n4_ := Aside0.mk (blk_drew BK169.out)
 have n5_ := Aside0.mk (below_drew1 HB.out)
 clear BK161
 clear BK162
 clear BK163
 clear BK166
 clear BK169
 clear HB
 have BK161 := n0_
 have BK162 := n1_
 have BK163 := n2_
 have BK166 := n3_
 have BK169 := n4_
 have HB := n5_
 clear n0_ n1_ n2_ n3_ n4_ n5_
 refine start_ (n := 10) (S := fun w' => w'.cell? ⟨gb166, 0, none⟩ = some (.float .f64 t164) ∧ w'.cell? ⟨gb166, 1, none⟩ = some (.float .f64 t165) ∧ w'.cell? ⟨gb169, 0, none⟩ = some (.float .f64 t167) ∧ w'.cell? ⟨gb169, 1, none⟩ = some (.float .f64 t168)) (ds := []) #[false, false, false, false, false, false, false, false, false, false] (by kernel_rfl) rfl rfl ⟨(blk_cell BK166.out 0).trans rfl, (blk_cell BK166.out 1).trans rfl, (blk_cell BK169.out 0).trans rfl, (blk_cell BK169.out 1).trans rfl⟩ (fun hHeld => ?_); refine with_tabW pair_Add.tab3 pair_Add.bits3 (fun HT_ HW_ => ?_)
 generalize w33.drew = w34 at BK161 BK162 BK163 BK166 BK169 HB hHeld ⊢
 refine pure_ (i := 0) (N := some 18) (v := ?_) (a' := ?_) #[true, false, false, false, false, false, false, false, false, false] rfl rfl (any_of HT_.out (by kernel_rfl)) (fun _ _ _ h => h) (Or.inl ⟨by rfl, ?_⟩) ?_ ?_
 rotate_left
 ·intro w'
  go_simp
  with_reducible rfl
 rotate_left
 ·simp only [Act.put, List.setIfInBounds_toArray, List.set_cons_zero, List.set_cons_succ, i64_w, i32_w]
  rfl
 refine pure_ (i := 2) (N := some 20) (v := ?_) (a' := ?_) #[true, false, true, false, false, false, false, false, false, false] rfl rfl (any_of HT_.out (by kernel_rfl)) (fun _ _ _ h => h) (Or.inl ⟨by rfl, ?_⟩) ?_ ?_
 rotate_left
 ·intro w'
  go_simp
  with_reducible rfl
 rotate_left
 ·simp only [Act.put, List.setIfInBounds_toArray, List.set_cons_zero, List.set_cons_succ, i64_w, i32_w]
  rfl
 refine pure_ (i := 4) (N := some 22) (v := ?_) (a' := ?_) #[true, false, true, false, true, false, false, false, false, false] rfl rfl (any_of HT_.out (by kernel_rfl)) (fun _ _ _ h => h) (Or.inl ⟨by rfl, ?_⟩) ?_ ?_
 rotate_left
 ·intro w'
  go_simp
  with_reducible rfl
 rotate_left
 ·simp only [Act.put, List.setIfInBounds_toArray, List.set_cons_zero, List.set_cons_succ, i64_w, i32_w]
  rfl
 refine take_ (i := 1) (N := some 19) (v := ?_) (a' := ?_) #[true, true, true, false, true, false, false, false, false, false] rfl rfl (take_ofW HT_.out HW_.out (by kernel_rfl)) (fun _ _ _ h => h) (Or.inl ⟨by rfl, ?_⟩) hHeld ?_ ?_
 rotate_left
 ·rintro w' ⟨s0, s1, s2, s3⟩
  go_simp
  with_reducible rfl
 rotate_left
 ·simp only [Act.put, List.setIfInBounds_toArray, List.set_cons_zero, List.set_cons_succ, i64_w, i32_w]
  rfl
 refine take_ (i := 3) (N := some 21) (v := ?_) (a' := ?_) #[true, true, true, true, true, false, false, false, false, false] rfl rfl (take_ofW HT_.out HW_.out (by kernel_rfl)) (fun _ _ _ h => h) (Or.inl ⟨by rfl, ?_⟩) hHeld ?_ ?_
 rotate_left
 ·rintro w' ⟨s0, s1, s2, s3⟩
  go_simp
  with_reducible rfl
 rotate_left
 ·simp only [Act.put, List.setIfInBounds_toArray, List.set_cons_zero, List.set_cons_succ, i64_w, i32_w]
  rfl
 refine take_ (i := 5) (N := some 23) (v := ?_) (a' := ?_) #[true, true, true, true, true, true, false, false, false, false] rfl rfl (take_ofW HT_.out HW_.out (by kernel_rfl)) (fun _ _ _ h => h) (Or.inl ⟨by rfl, ?_⟩) hHeld ?_ ?_
 rotate_left
 ·rintro w' ⟨s0, s1, s2, s3⟩
  go_simp
  with_reducible rfl
 rotate_left
 ·simp only [Act.put, List.setIfInBounds_toArray, List.set_cons_zero, List.set_cons_succ, i64_w, i32_w]
  rfl
 refine join_ (σ := Nat) 1 #[true, true, true, true, true, true, true, true, true, false] (fun s_ => [(24, .float .f64 t170), (25, .agg #[.float .f64 t171, .float .f64 t172]), (7, .pointer (some ⟨s_, 0, none⟩))]) (fun s_ w' => (w'.cell? ⟨gb166, 0, none⟩ = some (.float .f64 t164) ∧ w'.cell? ⟨gb166, 1, none⟩ = some (.float .f64 t165) ∧ w'.cell? ⟨gb169, 0, none⟩ = some (.float .f64 t167) ∧ w'.cell? ⟨gb169, 1, none⟩ = some (.float .f64 t168)) ∧ (w'.heap[gb161]? = some (.cells #[.float .f64 a0_0, .float .f64 a0_1] 30 (0, 0))) ∧ (w'.heap[gb162]? = some (.cells #[.float .f64 a1_0, .float .f64 a1_1] 30 (0, 0))) ∧ (w'.heap[gb163]? = some (.cells #[.float .f64 0, .float .f64 0] 30 (0, 0))) ∧ (w'.heap[gb166]? = some (.cells #[.float .f64 t164, .float .f64 t165] 57 (0, 0))) ∧ (w'.heap[gb169]? = some (.cells #[.float .f64 t167, .float .f64 t168] 57 (0, 0))) ∧ (w'.heap[s_]? = some (.cells #[.float .f64 0, .float .f64 0] 57 (0, 0))) ∧ (w.heap.size ≤ s_) ∧ (w.heap.size ≤ s_) ∧ (gb161 ≠ s_) ∧ (s_ ≠ gb161) ∧ (gb162 ≠ s_) ∧ (s_ ≠ gb162) ∧ (gb163 ≠ s_) ∧ (s_ ≠ gb163) ∧ (gb166 ≠ s_) ∧ (s_ ≠ gb166) ∧ (gb169 ≠ s_) ∧ (s_ ≠ gb169) ∧ (Below w.heap.size w w')) ?_ ?_
 rotate_left
 ·intro hCont
  refine two_ (i := 6) (j := 8) (Ni := some 24) (Nj := some 7) #[true, true, true, true, true, true, true, false, false, false] #[true, true, true, true, true, true, false, false, true, false] rfl rfl rfl rfl (two_of HT_.out (by kernel_rfl)) (by decide) (by decide) (fun K hK => ?_) (fun K hK => ?_)
  ·skip
   refine goes_ Try.func47 (by kernel_rfl) rfl #[.func (.func 48) #[] #[], .float .f64 t165, .float .f64 t167] (by rfl) rfl rfl (by (try simp only [List.map_toArray, List.map_cons, List.map_nil]); first | done | rfl | (simp only [List.length_drop, List.length_take]; rfl)) ?_
   with_reducible refine (pair_step.calls 48 t165 t167 t170 _ A5.out).mono ?_
   rintro e w' ⟨rfl, ⟨nd, rfl⟩⟩
   refine ⟨_, rfl, ?_⟩
   refine hK.out _ _ ⟨(blk_cell BK166.out 0).trans rfl, (blk_cell BK166.out 1).trans rfl, (blk_cell BK169.out 0).trans rfl, (blk_cell BK169.out 1).trans rfl⟩ (fun hHeld => ?_)
   clear hK K
   refine norm_ (a' := ?_) ?_ ?_
   rotate_left
   ·show Act.put _ (some 24) _ = _
    simp only [Act.put, List.setIfInBounds_toArray, List.set_cons_zero, List.set_cons_succ, i64_w, i32_w]
    rfl
   refine two_ (i := 7) (j := 8) (Ni := some 25) (Nj := some 7) #[true, true, true, true, true, true, true, true, false, false] #[true, true, true, true, true, true, true, false, true, false] rfl rfl rfl rfl (two_of HT_.out (by kernel_rfl)) (by decide) (by decide) (fun K hK => ?_) (fun K hK => ?_)
   ·skip
    refine goes_ Try.func45 (by kernel_rfl) rfl #[.float .f64 t164, .float .f64 t170] (by rfl) rfl rfl (by (try simp only [List.map_toArray, List.map_cons, List.map_nil]); first | done | rfl | (simp only [List.length_drop, List.length_take]; rfl)) ?_
    with_reducible refine (pair_quick.calls t164 t170 t171 t172 _ A6.out).mono ?_
    rintro e w35 ⟨rfl, hb⟩
    refine ⟨_, rfl, ?_⟩
    have n0_ := kb_ BK161 hb
    have n1_ := kb_ BK162 hb
    have n2_ := kb_ BK163 hb
    have n3_ := kb_ BK166 hb
    have n4_ := kb_ BK169 hb
    have n5_ := bs_ HB hb
    clear BK161
    clear BK162
    clear BK163
    clear BK166
    clear BK169
    clear HB
    have BK161 := n0_
    have BK162 := n1_
    have BK163 := n2_
    have BK166 := n3_
    have BK169 := n4_
    have HB := n5_
    clear n0_ n1_ n2_ n3_ n4_ n5_
    (try clear hb)
    (try clear hb2)
    (try clear hk)
    (try clear hi)
    refine hK.out _ _ ⟨(blk_cell BK166.out 0).trans rfl, (blk_cell BK166.out 1).trans rfl, (blk_cell BK169.out 0).trans rfl, (blk_cell BK169.out 1).trans rfl⟩ (fun hHeld => ?_)
    clear hK K
    refine norm_ (a' := ?_) ?_ ?_
    rotate_left
    ·show Act.put _ (some 25) _ = _
     simp only [Act.put, List.setIfInBounds_toArray, List.set_cons_zero, List.set_cons_succ, i64_w, i32_w]
     rfl
    refine one_ (i := 8) (N := some 7) #[true, true, true, true, true, true, true, true, true, false] rfl rfl (one_of HT_.out (by kernel_rfl)) (by decide) (fun K hK => ?_)
    refine box_step ?hg (N := 7) ?hd (cs := #[.float .f64 0, .float .f64 0]) (t := 57) ?hr ?_; (case hd => rfl); (case hg => rfl); (case hr => first | (go_simp; done) | (go_simp; rfl))
    intro gb173 hg w36 hbox hb
    have n0_ := kb_ BK161 hb
    have n1_ := kb_ BK162 hb
    have n2_ := kb_ BK163 hb
    have n3_ := kb_ BK166 hb
    have n4_ := kb_ BK169 hb
    have n5_ := bs_ HB hb
    have n6_ := Aside0.mk (hbox)
    have n7_ := ge_ HB hg
    have n8_ := ge_ HB hg
    have n9_ := nlt_ BK161 hg
    have n10_ := ngt_ BK161 hg
    have n11_ := nlt_ BK162 hg
    have n12_ := ngt_ BK162 hg
    have n13_ := nlt_ BK163 hg
    have n14_ := ngt_ BK163 hg
    have n15_ := nlt_ BK166 hg
    have n16_ := ngt_ BK166 hg
    have n17_ := nlt_ BK169 hg
    have n18_ := ngt_ BK169 hg
    clear BK161
    clear BK162
    clear BK163
    clear BK166
    clear BK169
    clear HB
    have BK161 := n0_
    have BK162 := n1_
    have BK163 := n2_
    have BK166 := n3_
    have BK169 := n4_
    have HB := n5_
    have BK173 := n6_
    have GW173 := n7_
    have GE173 := n8_
    have NB161_173 := n9_
    have NB173_161 := n10_
    have NB162_173 := n11_
    have NB173_162 := n12_
    have NB163_173 := n13_
    have NB173_163 := n14_
    have NB166_173 := n15_
    have NB173_166 := n16_
    have NB169_173 := n17_
    have NB173_169 := n18_
    clear n0_ n1_ n2_ n3_ n4_ n5_ n6_ n7_ n8_ n9_ n10_ n11_ n12_ n13_ n14_ n15_ n16_ n17_ n18_
    clear hb hbox hg
    refine hK.out _ _ ⟨(blk_cell BK166.out 0).trans rfl, (blk_cell BK166.out 1).trans rfl, (blk_cell BK169.out 0).trans rfl, (blk_cell BK169.out 1).trans rfl⟩ (fun hHeld => ?_)
    clear hK K
    refine norm_ (a' := ?_) ?_ ?_
    rotate_left
    ·show Act.put _ (some 7) _ = _
     simp only [Act.put, List.setIfInBounds_toArray, List.set_cons_zero, List.set_cons_succ, i64_w, i32_w]
     rfl
    exact norm_ (by simp only [putAll, Act.put, List.setIfInBounds_toArray, List.set_cons_zero, List.set_cons_succ]) (hCont (gb173) _ ⟨hHeld, (bk_ BK161), (bk_ BK162), (bk_ BK163), (bk_ BK166), (bk_ BK169), (bk_ BK173), GW173.out, GE173.out, NB161_173.out, NB173_161.out, NB162_173.out, NB173_162.out, NB163_173.out, NB173_163.out, NB166_173.out, NB173_166.out, NB169_173.out, NB173_169.out, (bl_ HB)⟩)
   ·skip
    refine box_step ?hg (N := 7) ?hd (cs := #[.float .f64 0, .float .f64 0]) (t := 57) ?hr ?_; (case hd => rfl); (case hg => rfl); (case hr => first | (go_simp; done) | (go_simp; rfl))
    intro gb173 hg w35 hbox hb
    have n0_ := kb_ BK161 hb
    have n1_ := kb_ BK162 hb
    have n2_ := kb_ BK163 hb
    have n3_ := kb_ BK166 hb
    have n4_ := kb_ BK169 hb
    have n5_ := bs_ HB hb
    have n6_ := Aside0.mk (hbox)
    have n7_ := ge_ HB hg
    have n8_ := ge_ HB hg
    have n9_ := nlt_ BK161 hg
    have n10_ := ngt_ BK161 hg
    have n11_ := nlt_ BK162 hg
    have n12_ := ngt_ BK162 hg
    have n13_ := nlt_ BK163 hg
    have n14_ := ngt_ BK163 hg
    have n15_ := nlt_ BK166 hg
    have n16_ := ngt_ BK166 hg
    have n17_ := nlt_ BK169 hg
    have n18_ := ngt_ BK169 hg
    clear BK161
    clear BK162
    clear BK163
    clear BK166
    clear BK169
    clear HB
    have BK161 := n0_
    have BK162 := n1_
    have BK163 := n2_
    have BK166 := n3_
    have BK169 := n4_
    have HB := n5_
    have BK173 := n6_
    have GW173 := n7_
    have GE173 := n8_
    have NB161_173 := n9_
    have NB173_161 := n10_
    have NB162_173 := n11_
    have NB173_162 := n12_
    have NB163_173 := n13_
    have NB173_163 := n14_
    have NB166_173 := n15_
    have NB173_166 := n16_
    have NB169_173 := n17_
    have NB173_169 := n18_
    clear n0_ n1_ n2_ n3_ n4_ n5_ n6_ n7_ n8_ n9_ n10_ n11_ n12_ n13_ n14_ n15_ n16_ n17_ n18_
    clear hb hbox hg
    refine hK.out _ _ ⟨(blk_cell BK166.out 0).trans rfl, (blk_cell BK166.out 1).trans rfl, (blk_cell BK169.out 0).trans rfl, (blk_cell BK169.out 1).trans rfl⟩ (fun hHeld => ?_)
    clear hK K
    refine norm_ (a' := ?_) ?_ ?_
    rotate_left
    ·show Act.put _ (some 7) _ = _
     simp only [Act.put, List.setIfInBounds_toArray, List.set_cons_zero, List.set_cons_succ, i64_w, i32_w]
     rfl
    refine one_ (i := 7) (N := some 25) #[true, true, true, true, true, true, true, true, true, false] rfl rfl (one_of HT_.out (by kernel_rfl)) (by decide) (fun K hK => ?_)
    refine goes_ Try.func45 (by kernel_rfl) rfl #[.float .f64 t164, .float .f64 t170] (by rfl) rfl rfl (by (try simp only [List.map_toArray, List.map_cons, List.map_nil]); first | done | rfl | (simp only [List.length_drop, List.length_take]; rfl)) ?_
    with_reducible refine (pair_quick.calls t164 t170 t171 t172 _ A6.out).mono ?_
    rintro e w36 ⟨rfl, hb⟩
    refine ⟨_, rfl, ?_⟩
    have n0_ := kb_ BK161 hb
    have n1_ := kb_ BK162 hb
    have n2_ := kb_ BK163 hb
    have n3_ := kb_ BK166 hb
    have n4_ := kb_ BK169 hb
    have n5_ := kb_ BK173 hb
    have n6_ := bs_ HB hb
    clear BK161
    clear BK162
    clear BK163
    clear BK166
    clear BK169
    clear BK173
    clear HB
    have BK161 := n0_
    have BK162 := n1_
    have BK163 := n2_
    have BK166 := n3_
    have BK169 := n4_
    have BK173 := n5_
    have HB := n6_
    clear n0_ n1_ n2_ n3_ n4_ n5_ n6_
    (try clear hb)
    (try clear hb2)
    (try clear hk)
    (try clear hi)
    refine hK.out _ _ ⟨(blk_cell BK166.out 0).trans rfl, (blk_cell BK166.out 1).trans rfl, (blk_cell BK169.out 0).trans rfl, (blk_cell BK169.out 1).trans rfl⟩ (fun hHeld => ?_)
    clear hK K
    refine norm_ (a' := ?_) ?_ ?_
    rotate_left
    ·show Act.put _ (some 25) _ = _
     simp only [Act.put, List.setIfInBounds_toArray, List.set_cons_zero, List.set_cons_succ, i64_w, i32_w]
     rfl
    exact norm_ (by simp only [putAll, Act.put, List.setIfInBounds_toArray, List.set_cons_zero, List.set_cons_succ]) (hCont (gb173) _ ⟨hHeld, (bk_ BK161), (bk_ BK162), (bk_ BK163), (bk_ BK166), (bk_ BK169), (bk_ BK173), GW173.out, GE173.out, NB161_173.out, NB173_161.out, NB162_173.out, NB173_162.out, NB163_173.out, NB173_163.out, NB166_173.out, NB173_166.out, NB169_173.out, NB173_169.out, (bl_ HB)⟩)
  ·skip
   refine box_step ?hg (N := 7) ?hd (cs := #[.float .f64 0, .float .f64 0]) (t := 57) ?hr ?_; (case hd => rfl); (case hg => rfl); (case hr => first | (go_simp; done) | (go_simp; rfl))
   intro gb173 hg w35 hbox hb
   have n0_ := kb_ BK161 hb
   have n1_ := kb_ BK162 hb
   have n2_ := kb_ BK163 hb
   have n3_ := kb_ BK166 hb
   have n4_ := kb_ BK169 hb
   have n5_ := bs_ HB hb
   have n6_ := Aside0.mk (hbox)
   have n7_ := ge_ HB hg
   have n8_ := ge_ HB hg
   have n9_ := nlt_ BK161 hg
   have n10_ := ngt_ BK161 hg
   have n11_ := nlt_ BK162 hg
   have n12_ := ngt_ BK162 hg
   have n13_ := nlt_ BK163 hg
   have n14_ := ngt_ BK163 hg
   have n15_ := nlt_ BK166 hg
   have n16_ := ngt_ BK166 hg
   have n17_ := nlt_ BK169 hg
   have n18_ := ngt_ BK169 hg
   clear BK161
   clear BK162
   clear BK163
   clear BK166
   clear BK169
   clear HB
   have BK161 := n0_
   have BK162 := n1_
   have BK163 := n2_
   have BK166 := n3_
   have BK169 := n4_
   have HB := n5_
   have BK173 := n6_
   have GW173 := n7_
   have GE173 := n8_
   have NB161_173 := n9_
   have NB173_161 := n10_
   have NB162_173 := n11_
   have NB173_162 := n12_
   have NB163_173 := n13_
   have NB173_163 := n14_
   have NB166_173 := n15_
   have NB173_166 := n16_
   have NB169_173 := n17_
   have NB173_169 := n18_
   clear n0_ n1_ n2_ n3_ n4_ n5_ n6_ n7_ n8_ n9_ n10_ n11_ n12_ n13_ n14_ n15_ n16_ n17_ n18_
   clear hb hbox hg
   refine hK.out _ _ ⟨(blk_cell BK166.out 0).trans rfl, (blk_cell BK166.out 1).trans rfl, (blk_cell BK169.out 0).trans rfl, (blk_cell BK169.out 1).trans rfl⟩ (fun hHeld => ?_)
   clear hK K
   refine norm_ (a' := ?_) ?_ ?_
   rotate_left
   ·show Act.put _ (some 7) _ = _
    simp only [Act.put, List.setIfInBounds_toArray, List.set_cons_zero, List.set_cons_succ, i64_w, i32_w]
    rfl
   refine one_ (i := 6) (N := some 24) #[true, true, true, true, true, true, true, false, true, false] rfl rfl (one_of HT_.out (by kernel_rfl)) (by decide) (fun K hK => ?_)
   refine goes_ Try.func47 (by kernel_rfl) rfl #[.func (.func 48) #[] #[], .float .f64 t165, .float .f64 t167] (by rfl) rfl rfl (by (try simp only [List.map_toArray, List.map_cons, List.map_nil]); first | done | rfl | (simp only [List.length_drop, List.length_take]; rfl)) ?_
   with_reducible refine (pair_step.calls 48 t165 t167 t170 _ A5.out).mono ?_
   rintro e w' ⟨rfl, ⟨nd, rfl⟩⟩
   refine ⟨_, rfl, ?_⟩
   refine hK.out _ _ ⟨(blk_cell BK166.out 0).trans rfl, (blk_cell BK166.out 1).trans rfl, (blk_cell BK169.out 0).trans rfl, (blk_cell BK169.out 1).trans rfl⟩ (fun hHeld => ?_)
   clear hK K
   refine norm_ (a' := ?_) ?_ ?_
   rotate_left
   ·show Act.put _ (some 24) _ = _
    simp only [Act.put, List.setIfInBounds_toArray, List.set_cons_zero, List.set_cons_succ, i64_w, i32_w]
    rfl
   refine one_ (i := 7) (N := some 25) #[true, true, true, true, true, true, true, true, true, false] rfl rfl (one_of HT_.out (by kernel_rfl)) (by decide) (fun K hK => ?_)
   refine goes_ Try.func45 (by kernel_rfl) rfl #[.float .f64 t164, .float .f64 t170] (by rfl) rfl rfl (by (try simp only [List.map_toArray, List.map_cons, List.map_nil]); first | done | rfl | (simp only [List.length_drop, List.length_take]; rfl)) ?_
   with_reducible refine (pair_quick.calls t164 t170 t171 t172 _ A6.out).mono ?_
   rintro e w36 ⟨rfl, hb⟩
   refine ⟨_, rfl, ?_⟩
   have n0_ := kb_ BK161 hb
   have n1_ := kb_ BK162 hb
   have n2_ := kb_ BK163 hb
   have n3_ := kb_ BK166 hb
   have n4_ := kb_ BK169 hb
   have n5_ := kb_ BK173 hb
   have n6_ := bs_ HB hb
   clear BK161
   clear BK162
   clear BK163
   clear BK166
   clear BK169
   clear BK173
   clear HB
   have BK161 := n0_
   have BK162 := n1_
   have BK163 := n2_
   have BK166 := n3_
   have BK169 := n4_
   have BK173 := n5_
   have HB := n6_
   clear n0_ n1_ n2_ n3_ n4_ n5_ n6_
   (try clear hb)
   (try clear hb2)
   (try clear hk)
   (try clear hi)
   refine hK.out _ _ ⟨(blk_cell BK166.out 0).trans rfl, (blk_cell BK166.out 1).trans rfl, (blk_cell BK169.out 0).trans rfl, (blk_cell BK169.out 1).trans rfl⟩ (fun hHeld => ?_)
   clear hK K
   refine norm_ (a' := ?_) ?_ ?_
   rotate_left
   ·show Act.put _ (some 25) _ = _
    simp only [Act.put, List.setIfInBounds_toArray, List.set_cons_zero, List.set_cons_succ, i64_w, i32_w]
    rfl
   exact norm_ (by simp only [putAll, Act.put, List.setIfInBounds_toArray, List.set_cons_zero, List.set_cons_succ]) (hCont (gb173) _ ⟨hHeld, (bk_ BK161), (bk_ BK162), (bk_ BK163), (bk_ BK166), (bk_ BK169), (bk_ BK173), GW173.out, GE173.out, NB161_173.out, NB173_161.out, NB162_173.out, NB173_162.out, NB163_173.out, NB173_163.out, NB166_173.out, NB173_166.out, NB169_173.out, NB173_169.out, (bl_ HB)⟩)
 rintro gb173 w37 ⟨hS_, h0_, h1_, h2_, h3_, h4_, h5_, h6_, h7_, h8_, h9_, h10_, h11_, h12_, h13_, h14_, h15_, h16_, h17_, h18_⟩
 have n0_ : Aside0 (w37.heap[gb161]? = some (.cells #[.float .f64 a0_0, .float .f64 a0_1] 30 (0, 0))) := ⟨h0_⟩
 have n1_ : Aside0 (w37.heap[gb162]? = some (.cells #[.float .f64 a1_0, .float .f64 a1_1] 30 (0, 0))) := ⟨h1_⟩
 have n2_ : Aside0 (w37.heap[gb163]? = some (.cells #[.float .f64 0, .float .f64 0] 30 (0, 0))) := ⟨h2_⟩
 have n3_ : Aside0 (w37.heap[gb166]? = some (.cells #[.float .f64 t164, .float .f64 t165] 57 (0, 0))) := ⟨h3_⟩
 have n4_ : Aside0 (w37.heap[gb169]? = some (.cells #[.float .f64 t167, .float .f64 t168] 57 (0, 0))) := ⟨h4_⟩
 have n5_ : Aside0 (w37.heap[gb173]? = some (.cells #[.float .f64 0, .float .f64 0] 57 (0, 0))) := ⟨h5_⟩
 have n6_ : Aside0 (w.heap.size ≤ gb173) := ⟨h6_⟩
 have n7_ : Aside0 (w.heap.size ≤ gb173) := ⟨h7_⟩
 have n8_ : Aside0 (gb161 ≠ gb173) := ⟨h8_⟩
 have n9_ : Aside0 (gb173 ≠ gb161) := ⟨h9_⟩
 have n10_ : Aside0 (gb162 ≠ gb173) := ⟨h10_⟩
 have n11_ : Aside0 (gb173 ≠ gb162) := ⟨h11_⟩
 have n12_ : Aside0 (gb163 ≠ gb173) := ⟨h12_⟩
 have n13_ : Aside0 (gb173 ≠ gb163) := ⟨h13_⟩
 have n14_ : Aside0 (gb166 ≠ gb173) := ⟨h14_⟩
 have n15_ : Aside0 (gb173 ≠ gb166) := ⟨h15_⟩
 have n16_ : Aside0 (gb169 ≠ gb173) := ⟨h16_⟩
 have n17_ : Aside0 (gb173 ≠ gb169) := ⟨h17_⟩
 have n18_ : Aside0 (Below w.heap.size w w37) := ⟨h18_⟩
 clear BK161
 clear BK162
 clear BK163
 clear BK166
 clear BK169
 clear HB
 clear h0_ h1_ h2_ h3_ h4_ h5_ h6_ h7_ h8_ h9_ h10_ h11_ h12_ h13_ h14_ h15_ h16_ h17_ h18_
 have BK161 := n0_
 have BK162 := n1_
 have BK163 := n2_
 have BK166 := n3_
 have BK169 := n4_
 have BK173 := n5_
 have GW173 := n6_
 have GE173 := n7_
 have NB161_173 := n8_
 have NB173_161 := n9_
 have NB162_173 := n10_
 have NB173_162 := n11_
 have NB163_173 := n12_
 have NB173_163 := n13_
 have NB166_173 := n14_
 have NB173_166 := n15_
 have NB169_173 := n16_
 have NB173_169 := n17_
 have HB := n18_
 clear n0_ n1_ n2_ n3_ n4_ n5_ n6_ n7_ n8_ n9_ n10_ n11_ n12_ n13_ n14_ n15_ n16_ n17_ n18_
 have hHeld : w37.cell? ⟨gb166, 0, none⟩ = some (.float .f64 t164) ∧ w37.cell? ⟨gb166, 1, none⟩ = some (.float .f64 t165) ∧ w37.cell? ⟨gb169, 0, none⟩ = some (.float .f64 t167) ∧ w37.cell? ⟨gb169, 1, none⟩ = some (.float .f64 t168) := hS_
 refine norm_ (a' := ?_) ?_ ?_
 rotate_left
 ·simp only [putAll, Act.put, List.setIfInBounds_toArray, List.set_cons_zero, List.set_cons_succ]
  rfl
 refine one_ (i := 9) (N := none) #[true, true, true, true, true, true, true, true, true, true] rfl rfl (one_of HT_.out (by kernel_rfl)) (by decide) (fun K hK => ?_)
 have hs38 : w37.cell? ⟨gb173, 0, none⟩ = some (.float .f64 0) := (blk_cell BK173.out 0).trans rfl
 have hfs38 := blk_frozen BK173.out 0
 have hns38_0 := NB161_173.out
 have hns38_1 := NB162_173.out
 have hns38_2 := NB163_173.out
 have hns38_3 := NB166_173.out
 have hns38_4 := NB169_173.out
 have hms38_0 := NB173_161.out
 have hms38_1 := NB173_162.out
 have hms38_2 := NB173_163.out
 have hms38_3 := NB173_166.out
 have hms38_4 := NB173_169.out
 have hs39 : w37.cell? ⟨gb173, 1, none⟩ = some (.float .f64 0) := (blk_cell BK173.out 1).trans rfl
 have hfs39 := blk_frozen BK173.out 1
 have hns39_0 := NB161_173.out
 have hns39_1 := NB162_173.out
 have hns39_2 := NB163_173.out
 have hns39_3 := NB166_173.out
 have hns39_4 := NB169_173.out
 have hms39_0 := NB173_161.out
 have hms39_1 := NB173_162.out
 have hms39_2 := NB173_163.out
 have hms39_3 := NB173_166.out
 have hms39_4 := NB173_169.out
 refine skip_ (w1 := ?_) (by rfl) rfl ?_ ?_
 rotate_left
 ·go_simp
  rfl
 refine hK.out _ _ ⟨((cell_far (p := ⟨gb173, _, none⟩) NB166_173.out _).trans (((cell_far (p := ⟨gb173, _, none⟩) NB166_173.out _).trans (hHeld.1)))), ((cell_far (p := ⟨gb173, _, none⟩) NB166_173.out _).trans (((cell_far (p := ⟨gb173, _, none⟩) NB166_173.out _).trans (hHeld.2.1)))), ((cell_far (p := ⟨gb173, _, none⟩) NB169_173.out _).trans (((cell_far (p := ⟨gb173, _, none⟩) NB169_173.out _).trans (hHeld.2.2.1)))), ((cell_far (p := ⟨gb173, _, none⟩) NB169_173.out _).trans (((cell_far (p := ⟨gb173, _, none⟩) NB169_173.out _).trans (hHeld.2.2.2))))⟩ (fun hHeld => ?_)
 clear hK K
 refine done_ (done_of HT_.out (by kernel_rfl)) ?_
 try go_wp2
 have n0_ : Aside0 (((w37.setCell ⟨gb173, 0, none⟩ (.float .f64 t171)).setCell ⟨gb173, 1, none⟩ (.float .f64 t172)).heap[gb161]? = some (.cells #[.float .f64 a0_0, .float .f64 a0_1] 30 (0, 0))) := ⟨by (with_reducible repeat (first | apply bN | apply bD | apply bA)); refine blk_far ?_ NB161_173.out _; (with_reducible repeat (first | apply bN | apply bD | apply bA)); refine blk_far ?_ NB161_173.out _; (with_reducible repeat (first | apply bN | apply bD | apply bA)); exact BK161.out⟩
 have n1_ : Aside0 (((w37.setCell ⟨gb173, 0, none⟩ (.float .f64 t171)).setCell ⟨gb173, 1, none⟩ (.float .f64 t172)).heap[gb162]? = some (.cells #[.float .f64 a1_0, .float .f64 a1_1] 30 (0, 0))) := ⟨by (with_reducible repeat (first | apply bN | apply bD | apply bA)); refine blk_far ?_ NB162_173.out _; (with_reducible repeat (first | apply bN | apply bD | apply bA)); refine blk_far ?_ NB162_173.out _; (with_reducible repeat (first | apply bN | apply bD | apply bA)); exact BK162.out⟩
 have n2_ : Aside0 (((w37.setCell ⟨gb173, 0, none⟩ (.float .f64 t171)).setCell ⟨gb173, 1, none⟩ (.float .f64 t172)).heap[gb163]? = some (.cells #[.float .f64 0, .float .f64 0] 30 (0, 0))) := ⟨by (with_reducible repeat (first | apply bN | apply bD | apply bA)); refine blk_far ?_ NB163_173.out _; (with_reducible repeat (first | apply bN | apply bD | apply bA)); refine blk_far ?_ NB163_173.out _; (with_reducible repeat (first | apply bN | apply bD | apply bA)); exact BK163.out⟩
 have n3_ : Aside0 (((w37.setCell ⟨gb173, 0, none⟩ (.float .f64 t171)).setCell ⟨gb173, 1, none⟩ (.float .f64 t172)).heap[gb166]? = some (.cells #[.float .f64 t164, .float .f64 t165] 57 (0, 0))) := ⟨by (with_reducible repeat (first | apply bN | apply bD | apply bA)); refine blk_far ?_ NB166_173.out _; (with_reducible repeat (first | apply bN | apply bD | apply bA)); refine blk_far ?_ NB166_173.out _; (with_reducible repeat (first | apply bN | apply bD | apply bA)); exact BK166.out⟩
 have n4_ : Aside0 (((w37.setCell ⟨gb173, 0, none⟩ (.float .f64 t171)).setCell ⟨gb173, 1, none⟩ (.float .f64 t172)).heap[gb169]? = some (.cells #[.float .f64 t167, .float .f64 t168] 57 (0, 0))) := ⟨by (with_reducible repeat (first | apply bN | apply bD | apply bA)); refine blk_far ?_ NB169_173.out _; (with_reducible repeat (first | apply bN | apply bD | apply bA)); refine blk_far ?_ NB169_173.out _; (with_reducible repeat (first | apply bN | apply bD | apply bA)); exact BK169.out⟩
 have n5_ : Aside0 (((w37.setCell ⟨gb173, 0, none⟩ (.float .f64 t171)).setCell ⟨gb173, 1, none⟩ (.float .f64 t172)).heap[gb173]? = some (.cells #[.float .f64 t171, .float .f64 t172] 57 (0, 0))) := ⟨by (with_reducible repeat (first | apply bN | apply bD | apply bA)); refine blk_put (cs := #[.float .f64 t171, .float .f64 0]) ?_ 1 _ rfl; (with_reducible repeat (first | apply bN | apply bD | apply bA)); refine blk_put (cs := #[.float .f64 0, .float .f64 0]) ?_ 0 _ rfl; (with_reducible repeat (first | apply bN | apply bD | apply bA)); exact BK173.out⟩
 have n6_ : Aside0 (Below w.heap.size w ((w37.setCell ⟨gb173, 0, none⟩ (.float .f64 t171)).setCell ⟨gb173, 1, none⟩ (.float .f64 t172))) := ⟨bl_ HB⟩
 (try clear BK161)
 (try clear BK162)
 (try clear BK163)
 (try clear BK166)
 (try clear BK169)
 (try clear BK173)
 (try clear HB)
 generalize ((w37.setCell ⟨gb173, 0, none⟩ (.float .f64 t171)).setCell ⟨gb173, 1, none⟩ (.float .f64 t172)) = w40 at n0_ n1_ n2_ n3_ n4_ n5_ n6_ ⊢
 have BK161 := n0_
 have BK162 := n1_
 have BK163 := n2_
 have BK166 := n3_
 have BK169 := n4_
 have BK173 := n5_
 have HB := n6_
 clear n0_ n1_ n2_ n3_ n4_ n5_ n6_
 have n0_ := Aside0.mk (blk_drew BK161.out)
 have n1_ := Aside0.mk (blk_drew BK162.out)
 have n2_ := Aside0.mk (blk_drew BK163.out)
 have n3_ := Aside0.mk (blk_drew BK166.out)
 have n4_ := Aside0.mk (blk_drew BK169.out)
 have n5_ := Aside0.mk (blk_drew BK173.out)
 have n6_ := Aside0.mk (below_drew1 HB.out)
 clear BK161
 clear BK162
 clear BK163
 clear BK166
 clear BK169
 clear BK173
 clear HB
 have BK161 := n0_
 have BK162 := n1_
 have BK163 := n2_
 have BK166 := n3_
 have BK169 := n4_
 have BK173 := n5_
 have HB := n6_
 clear n0_ n1_ n2_ n3_ n4_ n5_ n6_
 refine start_ (n := 10) (S := fun w' => w'.cell? ⟨gb173, 0, none⟩ = some (.float .f64 t171) ∧ w'.cell? ⟨gb173, 1, none⟩ = some (.float .f64 t172) ∧ w'.cell? ⟨gb169, 0, none⟩ = some (.float .f64 t167) ∧ w'.cell? ⟨gb169, 1, none⟩ = some (.float .f64 t168)) (ds := []) #[false, false, false, false, false, false, false, false, false, false] (by kernel_rfl) rfl rfl ⟨(blk_cell BK173.out 0).trans rfl, (blk_cell BK173.out 1).trans rfl, (blk_cell BK169.out 0).trans rfl, (blk_cell BK169.out 1).trans rfl⟩ (fun hHeld => ?_); refine with_tabW pair_Add.tab4 pair_Add.bits4 (fun HT_ HW_ => ?_)
 generalize w40.drew = w41 at BK161 BK162 BK163 BK166 BK169 BK173 HB hHeld ⊢
 refine pure_ (i := 0) (N := some 26) (v := ?_) (a' := ?_) #[true, false, false, false, false, false, false, false, false, false] rfl rfl (any_of HT_.out (by kernel_rfl)) (fun _ _ _ h => h) (Or.inl ⟨by rfl, ?_⟩) ?_ ?_
 rotate_left
 ·intro w'
  go_simp
  with_reducible rfl
 rotate_left
 ·simp only [Act.put, List.setIfInBounds_toArray, List.set_cons_zero, List.set_cons_succ, i64_w, i32_w]
  rfl
 refine pure_ (i := 2) (N := some 28) (v := ?_) (a' := ?_) #[true, false, true, false, false, false, false, false, false, false] rfl rfl (any_of HT_.out (by kernel_rfl)) (fun _ _ _ h => h) (Or.inl ⟨by rfl, ?_⟩) ?_ ?_
 rotate_left
 ·intro w'
  go_simp
  with_reducible rfl
 rotate_left
 ·simp only [Act.put, List.setIfInBounds_toArray, List.set_cons_zero, List.set_cons_succ, i64_w, i32_w]
  rfl
 refine pure_ (i := 4) (N := some 30) (v := ?_) (a' := ?_) #[true, false, true, false, true, false, false, false, false, false] rfl rfl (any_of HT_.out (by kernel_rfl)) (fun _ _ _ h => h) (Or.inl ⟨by rfl, ?_⟩) ?_ ?_
 rotate_left
 ·intro w'
  go_simp
  with_reducible rfl
 rotate_left
 ·simp only [Act.put, List.setIfInBounds_toArray, List.set_cons_zero, List.set_cons_succ, i64_w, i32_w]
  rfl
 refine take_ (i := 1) (N := some 27) (v := ?_) (a' := ?_) #[true, true, true, false, true, false, false, false, false, false] rfl rfl (take_ofW HT_.out HW_.out (by kernel_rfl)) (fun _ _ _ h => h) (Or.inl ⟨by rfl, ?_⟩) hHeld ?_ ?_
 rotate_left
 ·rintro w' ⟨s0, s1, s2, s3⟩
  go_simp
  with_reducible rfl
 rotate_left
 ·simp only [Act.put, List.setIfInBounds_toArray, List.set_cons_zero, List.set_cons_succ, i64_w, i32_w]
  rfl
 refine take_ (i := 3) (N := some 29) (v := ?_) (a' := ?_) #[true, true, true, true, true, false, false, false, false, false] rfl rfl (take_ofW HT_.out HW_.out (by kernel_rfl)) (fun _ _ _ h => h) (Or.inl ⟨by rfl, ?_⟩) hHeld ?_ ?_
 rotate_left
 ·rintro w' ⟨s0, s1, s2, s3⟩
  go_simp
  with_reducible rfl
 rotate_left
 ·simp only [Act.put, List.setIfInBounds_toArray, List.set_cons_zero, List.set_cons_succ, i64_w, i32_w]
  rfl
 refine take_ (i := 5) (N := some 31) (v := ?_) (a' := ?_) #[true, true, true, true, true, true, false, false, false, false] rfl rfl (take_ofW HT_.out HW_.out (by kernel_rfl)) (fun _ _ _ h => h) (Or.inl ⟨by rfl, ?_⟩) hHeld ?_ ?_
 rotate_left
 ·rintro w' ⟨s0, s1, s2, s3⟩
  go_simp
  with_reducible rfl
 rotate_left
 ·simp only [Act.put, List.setIfInBounds_toArray, List.set_cons_zero, List.set_cons_succ, i64_w, i32_w]
  rfl
 refine one_ (i := 6) (N := some 32) #[true, true, true, true, true, true, true, false, false, false] rfl rfl (one_of HT_.out (by kernel_rfl)) (by decide) (fun K hK => ?_)
 refine goes_ Try.func47 (by kernel_rfl) rfl #[.func (.func 48) #[] #[], .float .f64 t168, .float .f64 t172] (by rfl) rfl rfl (by (try simp only [List.map_toArray, List.map_cons, List.map_nil]); first | done | rfl | (simp only [List.length_drop, List.length_take]; rfl)) ?_
 with_reducible refine (pair_step.calls 48 t168 t172 t174 _ A7.out).mono ?_
 rintro e w' ⟨rfl, ⟨nd, rfl⟩⟩
 refine ⟨_, rfl, ?_⟩
 refine hK.out _ _ ⟨(blk_cell BK173.out 0).trans rfl, (blk_cell BK173.out 1).trans rfl, (blk_cell BK169.out 0).trans rfl, (blk_cell BK169.out 1).trans rfl⟩ (fun hHeld => ?_)
 clear hK K
 refine norm_ (a' := ?_) ?_ ?_
 rotate_left
 ·show Act.put _ (some 32) _ = _
  simp only [Act.put, List.setIfInBounds_toArray, List.set_cons_zero, List.set_cons_succ, i64_w, i32_w]
  rfl
 refine one_ (i := 7) (N := some 33) #[true, true, true, true, true, true, true, true, false, false] rfl rfl (one_of HT_.out (by kernel_rfl)) (by decide) (fun K hK => ?_)
 refine goes_ Try.func45 (by kernel_rfl) rfl #[.float .f64 t171, .float .f64 t174] (by rfl) rfl rfl (by (try simp only [List.map_toArray, List.map_cons, List.map_nil]); first | done | rfl | (simp only [List.length_drop, List.length_take]; rfl)) ?_
 with_reducible refine (pair_quick.calls t171 t174 t175 t176 _ A8.out).mono ?_
 rintro e w42 ⟨rfl, hb⟩
 refine ⟨_, rfl, ?_⟩
 have n0_ := kb_ BK161 hb
 have n1_ := kb_ BK162 hb
 have n2_ := kb_ BK163 hb
 have n3_ := kb_ BK166 hb
 have n4_ := kb_ BK169 hb
 have n5_ := kb_ BK173 hb
 have n6_ := bs_ HB hb
 clear BK161
 clear BK162
 clear BK163
 clear BK166
 clear BK169
 clear BK173
 clear HB
 have BK161 := n0_
 have BK162 := n1_
 have BK163 := n2_
 have BK166 := n3_
 have BK169 := n4_
 have BK173 := n5_
 have HB := n6_
 clear n0_ n1_ n2_ n3_ n4_ n5_ n6_
 (try clear hb)
 (try clear hb2)
 (try clear hk)
 (try clear hi)
 refine hK.out _ _ ⟨(blk_cell BK173.out 0).trans rfl, (blk_cell BK173.out 1).trans rfl, (blk_cell BK169.out 0).trans rfl, (blk_cell BK169.out 1).trans rfl⟩ (fun hHeld => ?_)
 clear hK K
 refine norm_ (a' := ?_) ?_ ?_
 rotate_left
 ·show Act.put _ (some 33) _ = _
  simp only [Act.put, List.setIfInBounds_toArray, List.set_cons_zero, List.set_cons_succ, i64_w, i32_w]
  rfl
 refine one_ (i := 8) (N := some 34) #[true, true, true, true, true, true, true, true, true, false] rfl rfl (one_of HT_.out (by kernel_rfl)) (by decide) (fun K hK => ?_)
 refine goes_ Try.func40 (by kernel_rfl) rfl #[.agg #[.float .f64 t175, .float .f64 t176]] (by rfl) rfl rfl (by (try simp only [List.map_toArray, List.map_cons, List.map_nil]); first | done | rfl | (simp only [List.length_drop, List.length_take]; rfl)) ?_
 with_reducible refine (pair_two_told.calls t175 t176 t177 t178 _ A9.out).mono ?_
 rintro e w43 ⟨rfl, hb⟩
 refine ⟨_, rfl, ?_⟩
 have n0_ := kb_ BK161 hb
 have n1_ := kb_ BK162 hb
 have n2_ := kb_ BK163 hb
 have n3_ := kb_ BK166 hb
 have n4_ := kb_ BK169 hb
 have n5_ := kb_ BK173 hb
 have n6_ := bs_ HB hb
 clear BK161
 clear BK162
 clear BK163
 clear BK166
 clear BK169
 clear BK173
 clear HB
 have BK161 := n0_
 have BK162 := n1_
 have BK163 := n2_
 have BK166 := n3_
 have BK169 := n4_
 have BK173 := n5_
 have HB := n6_
 clear n0_ n1_ n2_ n3_ n4_ n5_ n6_
 (try clear hb)
 (try clear hb2)
 (try clear hk)
 (try clear hi)
 refine hK.out _ _ ⟨(blk_cell BK173.out 0).trans rfl, (blk_cell BK173.out 1).trans rfl, (blk_cell BK169.out 0).trans rfl, (blk_cell BK169.out 1).trans rfl⟩ (fun hHeld => ?_)
 clear hK K
 refine norm_ (a' := ?_) ?_ ?_
 rotate_left
 ·show Act.put _ (some 34) _ = _
  simp only [Act.put, List.setIfInBounds_toArray, List.set_cons_zero, List.set_cons_succ, i64_w, i32_w]
  rfl
 refine one_ (i := 9) (N := none) #[true, true, true, true, true, true, true, true, true, true] rfl rfl (one_of HT_.out (by kernel_rfl)) (by decide) (fun K hK => ?_)
 have hs44 : w43.cell? ⟨gb163, 0, none⟩ = some (.float .f64 0) := (blk_cell BK163.out 0).trans rfl
 have hfs44 := blk_frozen BK163.out 0
 have hns44_0 := NB161_163.out
 have hns44_1 := NB162_163.out
 have hns44_3 := NB166_163.out
 have hns44_4 := NB169_163.out
 have hns44_5 := NB173_163.out
 have hms44_0 := NB163_161.out
 have hms44_1 := NB163_162.out
 have hms44_3 := NB163_166.out
 have hms44_4 := NB163_169.out
 have hms44_5 := NB163_173.out
 have hs45 : w43.cell? ⟨gb163, 1, none⟩ = some (.float .f64 0) := (blk_cell BK163.out 1).trans rfl
 have hfs45 := blk_frozen BK163.out 1
 have hns45_0 := NB161_163.out
 have hns45_1 := NB162_163.out
 have hns45_3 := NB166_163.out
 have hns45_4 := NB169_163.out
 have hns45_5 := NB173_163.out
 have hms45_0 := NB163_161.out
 have hms45_1 := NB163_162.out
 have hms45_3 := NB163_166.out
 have hms45_4 := NB163_169.out
 have hms45_5 := NB163_173.out
 refine skip_ (w1 := ?_) (by rfl) rfl ?_ ?_
 rotate_left
 ·go_simp
  rfl
 refine hK.out _ _ ⟨((cell_far (p := ⟨gb163, _, none⟩) NB173_163.out _).trans (((cell_far (p := ⟨gb163, _, none⟩) NB173_163.out _).trans (hHeld.1)))), ((cell_far (p := ⟨gb163, _, none⟩) NB173_163.out _).trans (((cell_far (p := ⟨gb163, _, none⟩) NB173_163.out _).trans (hHeld.2.1)))), ((cell_far (p := ⟨gb163, _, none⟩) NB169_163.out _).trans (((cell_far (p := ⟨gb163, _, none⟩) NB169_163.out _).trans (hHeld.2.2.1)))), ((cell_far (p := ⟨gb163, _, none⟩) NB169_163.out _).trans (((cell_far (p := ⟨gb163, _, none⟩) NB169_163.out _).trans (hHeld.2.2.2))))⟩ (fun hHeld => ?_)
 clear hK K
 refine done_ (done_of HT_.out (by kernel_rfl)) ?_
 try go_wp2
 refine bodyPost_ret (results_cell_row rfl _ _ gb163 30 #[.float .f64 t177, .float .f64 t178] (0, 0) _ rfl (by (with_reducible repeat (first | apply bN | apply bD | apply bA)); refine blk_put (cs := #[.float .f64 t177, .float .f64 0]) ?_ 1 _ rfl; (with_reducible repeat (first | apply bN | apply bD | apply bA)); refine blk_put (cs := #[.float .f64 0, .float .f64 0]) ?_ 0 _ rfl; (with_reducible repeat (first | apply bN | apply bD | apply bA)); exact BK163.out) Try.underlying30 rfl (by kernel_rfl)) rfl ?_
 exact ⟨by first | rfl | (simp [errW_none, errW_some] <;> rfl) | (simp [*, errW_none, errW_some] <;> rfl), bl_ HB⟩

end Go.Proofs.Ytdemanikmaafeaa.Pr
