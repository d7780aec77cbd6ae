-- short
-- written by this session's own program (wip/fprint.py), which widens the kit's print by floats
import Derived.Test.YtdemanikmaafeaaPr0
import Derived.Test.YtdemanikmaafeaaPr1
import Derived.Test.YtdemanikmaafeaaPr2
namespace Go.Proofs.Ytdemanikmaafeaa.Pr
open Go.RowKit Go.Proofs.YtdemanikmaafeaaW.PrintWords Go.Proofs.YtdemanikmaafeaaW.PrintLast Go.Proofs.YtdemanikmaafeaaW.PrintMore
attribute [local go_sem] max2_int min2_int max_two min_two max_three min_three max_four min_four   -- for this text's walks alone
set_option linter.unusedVariables false
set_option linter.unusedSimpArgs false

/-! ### pair_Mul: function 24 -/
def pair_Mul.f (a0_0 : Nat) (a0_1 : Nat) (a1_0 : Nat) (a1_1 : Nat) : Option (Nat × Nat) := (pair_product.f a0_0 a1_0).bind fun bt182 => ((pair_step.f 49 a0_0 a1_1).bind fun t185 => ((pair_step.f 49 a0_1 a1_0).bind fun t186 => ((pair_step.f 48 t185 t186).bind fun t187 => ((pair_step.f 48 bt182.2 t187).bind fun t188 => ((pair_quick.f bt182.1 t188).bind fun bt189 => ((pair_two_told.f bt189.1 bt189.2).bind fun bt191 => (some (bt191.1, bt191.2))))))))
def pair_Mul.T4 : Bool × List (List Nat × List Nat) := (true, [([], []), ([0], [0]), ([], []), ([2], [2]), ([], []), ([], []), ([4, 5], [4, 5]), ([3, 6, 6], [3, 6]), ([1, 7, 7], [1, 7]), ([8, 8], [8]), ([9, 9, 0, 1, 2, 3, 4, 5, 6, 7, 8, 9], [9])])
def pair_Mul.B4 : List Nat := [0, 1, 0, 4, 0, 0, 48, 124, 255, 511, 1023]
theorem pair_Mul.tab4 : rtab .any (opsOf Try.f24 4) = pair_Mul.T4 := by kernel_rfl
theorem pair_Mul.bits4 : waitsOk pair_Mul.T4.2 pair_Mul.B4 = true := by kernel_rfl
set_option maxHeartbeats 3000000 in
set_option maxRecDepth 100000 in
theorem pair_Mul.calls (a0_0 : Nat) (a0_1 : Nat) (a1_0 : Nat) (a1_1 : Nat) (r1 : Nat) (r2 : Nat) (w : World) (h : pair_Mul.f a0_0 a0_1 a1_0 a1_1 = some (r1, r2)) :
  Calls Try.prog 24 #[.agg #[.float .f64 a0_0, .float .f64 a0_1], .agg #[.float .f64 a1_0, .float .f64 a1_1]] w fun e w' => e = .returned (.agg #[.float .f64 r1, .float .f64 r2]) ∧ Below w.heap.size w w' := by
 have hu30 := Try.underlying30
 have hu57 := Try.underlying57
 have HB := Aside0.mk (Below.refl w.heap.size w)
 have H : ((pair_product.f a0_0 a1_0).bind fun bt182 => ((pair_step.f 49 a0_0 a1_1).bind fun t185 => ((pair_step.f 49 a0_1 a1_0).bind fun t186 => ((pair_step.f 48 t185 t186).bind fun t187 => ((pair_step.f 48 bt182.2 t187).bind fun t188 => ((pair_quick.f bt182.1 t188).bind fun bt189 => ((pair_two_told.f bt189.1 bt189.2).bind fun bt191 => (some (bt191.1, bt191.2))))))))) = some (r1, r2) := h
 clear h
 obtain ⟨⟨t182, t183⟩, A3, H⟩ := ob_ H
 try dsimp only at H
 obtain ⟨t185, A4, H⟩ := ob_ H
 try dsimp only at H
 obtain ⟨t186, A5, H⟩ := ob_ H
 try dsimp only at H
 obtain ⟨t187, A6, H⟩ := ob_ H
 try dsimp only at H
 obtain ⟨t188, A7, H⟩ := ob_ H
 try dsimp only at H
 obtain ⟨⟨t189, t190⟩, A8, H⟩ := ob_ H
 try dsimp only at H
 obtain ⟨⟨t191, t192⟩, A9, H⟩ := ob_ H
 try dsimp only at H
 simp only [Option.some.injEq, Prod.mk.injEq] at H
 obtain ⟨rfl, rfl⟩ := H
 go_enter Try.func24, Try.ntmps24
 try go_wp2_with (first | ((with_reducible refine gate_dst (N := 2) rfl ?_); refine box_event ?hg (N := 2) ?hd (cs := #[.float .f64 a0_0, .float .f64 a0_1]) (t := 30) ?hr ?_; (case hd => rfl); (case hg => rfl); (case hr => first | (go_simp; done) | (go_simp; rfl)); intro gb179 hg w10 hbox hb; have n0_ := bs_ HB hb; have n1_ := Aside0.mk (hbox); have n2_ := ge_ HB hg; have n3_ := ge_ HB hg; clear HB; have HB := n0_; have BK179 := n1_; have GW179 := n2_; have GE179 := n3_; clear n0_ n1_ n2_ n3_; clear hb hbox hg) | ((with_reducible refine gate_dst (N := 3) rfl ?_); refine box_event ?hg (N := 3) ?hd (cs := #[.float .f64 a1_0, .float .f64 a1_1]) (t := 30) ?hr ?_; (case hd => rfl); (case hg => rfl); (case hr => first | (go_simp; done) | (go_simp; rfl)); intro gb180 hg w11 hbox hb; have n0_ := kb_ BK179 hb; have n1_ := bs_ HB hb; have n2_ := Aside0.mk (hbox); have n3_ := ge_ HB hg; have n4_ := ge_ HB hg; have n5_ := nlt_ BK179 hg; have n6_ := ngt_ BK179 hg; clear BK179; clear HB; have BK179 := n0_; have HB := n1_; have BK180 := n2_; have GW180 := n3_; have GE180 := n4_; have NB179_180 := n5_; have NB180_179 := n6_; clear n0_ n1_ n2_ n3_ n4_ n5_ n6_; clear hb hbox hg) | ((with_reducible refine gate_dst (N := 4) rfl ?_); refine box_event ?hg (N := 4) ?hd (cs := #[.float .f64 0, .float .f64 0]) (t := 30) ?hr ?_; (case hd => rfl); (case hg => rfl); (case hr => first | (go_simp; done) | (go_simp; rfl)); intro gb181 hg w12 hbox hb; have n0_ := kb_ BK179 hb; have n1_ := kb_ BK180 hb; have n2_ := bs_ HB hb; have n3_ := Aside0.mk (hbox); have n4_ := ge_ HB hg; have n5_ := ge_ HB hg; have n6_ := nlt_ BK179 hg; have n7_ := ngt_ BK179 hg; have n8_ := nlt_ BK180 hg; have n9_ := ngt_ BK180 hg; clear BK179; clear BK180; clear HB; have BK179 := n0_; have BK180 := n1_; have HB := n2_; have BK181 := n3_; have GW181 := n4_; have GE181 := n5_; have NB179_181 := n6_; have NB181_179 := n7_; have NB180_181 := n8_; have NB181_180 := n9_; clear n0_ n1_ n2_ n3_ n4_ n5_ n6_ n7_ n8_ n9_; clear hb hbox hg; have hnb13 := NB179_180.out; have hnc13 := NB180_179.out; have hnb14 := NB179_181.out; have hnc14 := NB181_179.out; have hcz15_0 : w12.cell? ⟨gb179, 0, none⟩ = some (.float .f64 a0_0) := (blk_cell BK179.out 0).trans rfl; have hcz15_1 : w12.cell? ⟨gb179, 1, none⟩ = some (.float .f64 a0_1) := (blk_cell BK179.out 1).trans rfl; have hfz15_0 := blk_frozen BK179.out 0; have hfz15_1 := blk_frozen BK179.out 1; have hnb16 := NB180_181.out; have hnc16 := NB181_180.out; have hcz17_0 : w12.cell? ⟨gb180, 0, none⟩ = some (.float .f64 a1_0) := (blk_cell BK180.out 0).trans rfl; have hcz17_1 : w12.cell? ⟨gb180, 1, none⟩ = some (.float .f64 a1_1) := (blk_cell BK180.out 1).trans rfl; have hfz17_0 := blk_frozen BK180.out 0; have hfz17_1 := blk_frozen BK180.out 1) | ((with_reducible refine gate_callee (f := 42) rfl ?_); refine goesM (some 12) Try.func42 #[.float .f64 a0_0, .float .f64 a1_0] ?_; (with_reducible refine (pair_product.calls a0_0 a1_0 t182 t183 _ A3.out).mono ?_); rintro e w18 ⟨rfl, hb⟩; refine ⟨_, rfl, ?_⟩; have n0_ := kb_ BK179 hb; have n1_ := kb_ BK180 hb; have n2_ := kb_ BK181 hb; have n3_ := bs_ HB hb; clear BK179; clear BK180; clear BK181; clear HB; have BK179 := n0_; have BK180 := n1_; have BK181 := n2_; have HB := n3_; clear n0_ n1_ n2_ n3_; (try clear hb); (try clear hb2); (try clear hk); (try clear hi)) | ((with_reducible refine gate_dst (N := 5) rfl ?_); refine box_event ?hg (N := 5) ?hd (cs := #[.float .f64 0, .float .f64 0]) (t := 57) ?hr ?_; (case hd => rfl); (case hg => rfl); (case hr => first | (go_simp; done) | (go_simp; rfl)); intro gb184 hg w19 hbox hb; have n0_ := kb_ BK179 hb; have n1_ := kb_ BK180 hb; have n2_ := kb_ BK181 hb; have n3_ := bs_ HB hb; have n4_ := Aside0.mk (hbox); have n5_ := ge_ HB hg; have n6_ := ge_ HB hg; have n7_ := nlt_ BK179 hg; have n8_ := ngt_ BK179 hg; have n9_ := nlt_ BK180 hg; have n10_ := ngt_ BK180 hg; have n11_ := nlt_ BK181 hg; have n12_ := ngt_ BK181 hg; clear BK179; clear BK180; clear BK181; clear HB; have BK179 := n0_; have BK180 := n1_; have BK181 := n2_; have HB := n3_; have BK184 := n4_; have GW184 := n5_; have GE184 := n6_; have NB179_184 := n7_; have NB184_179 := n8_; have NB180_184 := n9_; have NB184_180 := n10_; have NB181_184 := n11_; have NB184_181 := n12_; clear n0_ n1_ n2_ n3_ n4_ n5_ n6_ n7_ n8_ n9_ n10_ n11_ n12_; clear hb hbox hg; have hnb20 := NB184_179.out; have hnc20 := NB179_184.out; have hnb21 := NB184_180.out; have hnc21 := NB180_184.out; have hnb22 := NB184_181.out; have hnc22 := NB181_184.out; have hcz23_0 : w19.cell? ⟨gb184, 0, none⟩ = some (.float .f64 0) := (blk_cell BK184.out 0).trans rfl; have hcz23_1 : w19.cell? ⟨gb184, 1, none⟩ = some (.float .f64 0) := (blk_cell BK184.out 1).trans rfl; have hfz23_0 := blk_frozen BK184.out 0; have hfz23_1 := blk_frozen BK184.out 1; have hcz24_0 : w19.cell? ⟨gb179, 0, none⟩ = some (.float .f64 a0_0) := (blk_cell BK179.out 0).trans rfl; have hcz24_1 : w19.cell? ⟨gb179, 1, none⟩ = some (.float .f64 a0_1) := (blk_cell BK179.out 1).trans rfl; have hfz24_0 := blk_frozen BK179.out 0; have hfz24_1 := blk_frozen BK179.out 1; have hcz25_0 : w19.cell? ⟨gb180, 0, none⟩ = some (.float .f64 a1_0) := (blk_cell BK180.out 0).trans rfl; have hcz25_1 : w19.cell? ⟨gb180, 1, none⟩ = some (.float .f64 a1_1) := (blk_cell BK180.out 1).trans rfl; have hfz25_0 := blk_frozen BK180.out 0; have hfz25_1 := blk_frozen BK180.out 1) | ((with_reducible refine gate_callee (f := 47) rfl ?_); refine goesM (some 17) Try.func47 #[.func (.func 49) #[] #[], .float .f64 a0_0, .float .f64 a1_1] ?_; (with_reducible refine (pair_step.calls 49 a0_0 a1_1 t185 _ A4.out).mono ?_); rintro e w' ⟨rfl, ⟨nd, rfl⟩⟩; refine ⟨_, rfl, ?_⟩) | ((with_reducible refine gate_callee (f := 47) rfl ?_); refine goesM (some 22) Try.func47 #[.func (.func 49) #[] #[], .float .f64 a0_1, .float .f64 a1_0] ?_; (with_reducible refine (pair_step.calls 49 a0_1 a1_0 t186 _ A5.out).mono ?_); rintro e w' ⟨rfl, ⟨nd, rfl⟩⟩; refine ⟨_, rfl, ?_⟩))
 have n0_ : Aside0 (((w19.setCell ⟨gb184, 0, none⟩ (.float .f64 t182)).setCell ⟨gb184, 1, none⟩ (.float .f64 t183)).heap[gb179]? = some (.cells #[.float .f64 a0_0, .float .f64 a0_1] 30 (0, 0))) := ⟨by (with_reducible repeat (first | apply bN | apply bD | apply bA)); refine blk_far ?_ NB179_184.out _; (with_reducible repeat (first | apply bN | apply bD | apply bA)); refine blk_far ?_ NB179_184.out _; (with_reducible repeat (first | apply bN | apply bD | apply bA)); exact BK179.out⟩
 have n1_ : Aside0 (((w19.setCell ⟨gb184, 0, none⟩ (.float .f64 t182)).setCell ⟨gb184, 1, none⟩ (.float .f64 t183)).heap[gb180]? = some (.cells #[.float .f64 a1_0, .float .f64 a1_1] 30 (0, 0))) := ⟨by (with_reducible repeat (first | apply bN | apply bD | apply bA)); refine blk_far ?_ NB180_184.out _; (with_reducible repeat (first | apply bN | apply bD | apply bA)); refine blk_far ?_ NB180_184.out _; (with_reducible repeat (first | apply bN | apply bD | apply bA)); exact BK180.out⟩
 have n2_ : Aside0 (((w19.setCell ⟨gb184, 0, none⟩ (.float .f64 t182)).setCell ⟨gb184, 1, none⟩ (.float .f64 t183)).heap[gb181]? = some (.cells #[.float .f64 0, .float .f64 0] 30 (0, 0))) := ⟨by (with_reducible repeat (first | apply bN | apply bD | apply bA)); refine blk_far ?_ NB181_184.out _; (with_reducible repeat (first | apply bN | apply bD | apply bA)); refine blk_far ?_ NB181_184.out _; (with_reducible repeat (first | apply bN | apply bD | apply bA)); exact BK181.out⟩
 have n3_ : Aside0 (((w19.setCell ⟨gb184, 0, none⟩ (.float .f64 t182)).setCell ⟨gb184, 1, none⟩ (.float .f64 t183)).heap[gb184]? = some (.cells #[.float .f64 t182, .float .f64 t183] 57 (0, 0))) := ⟨by (with_reducible repeat (first | apply bN | apply bD | apply bA)); refine blk_put (cs := #[.float .f64 t182, .float .f64 0]) ?_ 1 _ rfl; (with_reducible repeat (first | apply bN | apply bD | apply bA)); refine blk_put (cs := #[.float .f64 0, .float .f64 0]) ?_ 0 _ rfl; (with_reducible repeat (first | apply bN | apply bD | apply bA)); exact BK184.out⟩
 have n4_ : Aside0 (Below w.heap.size w ((w19.setCell ⟨gb184, 0, none⟩ (.float .f64 t182)).setCell ⟨gb184, 1, none⟩ (.float .f64 t183))) := ⟨bl_ HB⟩
 (try clear BK179)
 (try clear BK180)
 (try clear BK181)
 (try clear BK184)
 (try clear HB)
 generalize ((w19.setCell ⟨gb184, 0, none⟩ (.float .f64 t182)).setCell ⟨gb184, 1, none⟩ (.float .f64 t183)) = w26 at n0_ n1_ n2_ n3_ n4_ ⊢
 have BK179 := n0_
 have BK180 := n1_
 have BK181 := n2_
 have BK184 := n3_
 have HB := n4_
 clear n0_ n1_ n2_ n3_ n4_
 (try (rw [drewN_self w26]; generalize hq_ : World.drewN w26 _ = w26; have n0_ : Aside0 (w26.heap[gb179]? = some (.cells #[.float .f64 a0_0, .float .f64 a0_1] 30 (0, 0))) := ⟨by rw [← hq_]; exact (bk_ BK179)⟩; have n1_ : Aside0 (w26.heap[gb180]? = some (.cells #[.float .f64 a1_0, .float .f64 a1_1] 30 (0, 0))) := ⟨by rw [← hq_]; exact (bk_ BK180)⟩; have n2_ : Aside0 (w26.heap[gb181]? = some (.cells #[.float .f64 0, .float .f64 0] 30 (0, 0))) := ⟨by rw [← hq_]; exact (bk_ BK181)⟩; have n3_ : Aside0 (w26.heap[gb184]? = some (.cells #[.float .f64 t182, .float .f64 t183] 57 (0, 0))) := ⟨by rw [← hq_]; exact (bk_ BK184)⟩; have n4_ : Aside0 (Below w.heap.size w w26) := ⟨by rw [← hq_]; exact (bl_ HB)⟩; clear BK179 BK180 BK181 BK184 HB hq_; have BK179 := n0_; have BK180 := n1_; have BK181 := n2_; have BK184 := n3_; have HB := n4_; clear n0_ n1_ n2_ n3_ n4_))
 have n0_ := Aside0.mk (blk_drew BK179.out)
 have n1_ := Aside0.mk (blk_drew BK180.out)
 have n2_ := Aside0.mk (blk_drew BK181.out)
 have n3_ := Aside0.mk (blk_drew BK184.out)
 have n4_ := Aside0.mk (below_drew1 HB.out)
 clear BK179
 clear BK180
 clear BK181
 clear BK184
 clear HB
 have BK179 := n0_
 have BK180 := n1_
 have BK181 := n2_
 have BK184 := n3_
 have HB := n4_
 clear n0_ n1_ n2_ n3_ n4_
 refine start_ (n := 11) (S := fun w' => w'.cell? ⟨gb184, 0, none⟩ = some (.float .f64 t182) ∧ w'.cell? ⟨gb184, 1, none⟩ = some (.float .f64 t183)) (ds := []) #[false, false, false, false, false, false, false, false, false, false, false] (by kernel_rfl) rfl rfl ⟨(blk_cell BK184.out 0).trans rfl, (blk_cell BK184.out 1).trans rfl⟩ (fun hHeld => ?_); refine with_tabW pair_Mul.tab4 pair_Mul.bits4 (fun HT_ HW_ => ?_)
 generalize w26.drew = w27 at BK179 BK180 BK181 BK184 HB hHeld ⊢
 refine pure_ (i := 0) (N := some 23) (v := ?_) (a' := ?_) #[true, false, false, false, false, false, false, false, false, false, false] rfl rfl (any_of HT_.out (by kernel_rfl)) (fun _ _ _ h => h) (Or.inl ⟨by rfl, ?_⟩) ?_ ?_
 rotate_left
 ·intro w'
  go_simp
  with_reducible rfl
 rotate_left
 ·simp only [Act.put, List.setIfInBounds_toArray, List.set_cons_zero, List.set_cons_succ, i64_w, i32_w]
  rfl
 refine pure_ (i := 2) (N := some 25) (v := ?_) (a' := ?_) #[true, false, true, false, false, false, false, false, false, false, false] rfl rfl (any_of HT_.out (by kernel_rfl)) (fun _ _ _ h => h) (Or.inl ⟨by rfl, ?_⟩) ?_ ?_
 rotate_left
 ·intro w'
  go_simp
  with_reducible rfl
 rotate_left
 ·simp only [Act.put, List.setIfInBounds_toArray, List.set_cons_zero, List.set_cons_succ, i64_w, i32_w]
  rfl
 refine pure_ (i := 4) (N := some 27) (v := ?_) (a' := ?_) #[true, false, true, false, true, false, false, false, false, false, false] rfl rfl (any_of HT_.out (by kernel_rfl)) (fun _ _ _ h => h) (Or.inl ⟨by rfl, ?_⟩) ?_ ?_
 rotate_left
 ·intro w'
  go_simp
  with_reducible rfl
 rotate_left
 ·simp only [Act.put, List.setIfInBounds_toArray, List.set_cons_zero, List.set_cons_succ, i64_w, i32_w]
  rfl
 refine pure_ (i := 5) (N := some 28) (v := ?_) (a' := ?_) #[true, false, true, false, true, true, false, false, false, false, false] rfl rfl (any_of HT_.out (by kernel_rfl)) (fun _ _ _ h => h) (Or.inl ⟨by rfl, ?_⟩) ?_ ?_
 rotate_left
 ·intro w'
  go_simp
  with_reducible rfl
 rotate_left
 ·simp only [Act.put, List.setIfInBounds_toArray, List.set_cons_zero, List.set_cons_succ, i64_w, i32_w]
  rfl
 refine take_ (i := 1) (N := some 24) (v := ?_) (a' := ?_) #[true, true, true, false, true, true, false, false, false, false, false] rfl rfl (take_ofW HT_.out HW_.out (by kernel_rfl)) (fun _ _ _ h => h) (Or.inl ⟨by rfl, ?_⟩) hHeld ?_ ?_
 rotate_left
 ·rintro w' ⟨s0, s1⟩
  go_simp
  with_reducible rfl
 rotate_left
 ·simp only [Act.put, List.setIfInBounds_toArray, List.set_cons_zero, List.set_cons_succ, i64_w, i32_w]
  rfl
 refine take_ (i := 3) (N := some 26) (v := ?_) (a' := ?_) #[true, true, true, true, true, true, false, false, false, false, false] rfl rfl (take_ofW HT_.out HW_.out (by kernel_rfl)) (fun _ _ _ h => h) (Or.inl ⟨by rfl, ?_⟩) hHeld ?_ ?_
 rotate_left
 ·rintro w' ⟨s0, s1⟩
  go_simp
  with_reducible rfl
 rotate_left
 ·simp only [Act.put, List.setIfInBounds_toArray, List.set_cons_zero, List.set_cons_succ, i64_w, i32_w]
  rfl
 refine one_ (i := 6) (N := some 29) #[true, true, true, true, true, true, true, false, false, false, false] rfl rfl (one_of HT_.out (by kernel_rfl)) (by decide) (fun K hK => ?_)
 refine goes_ Try.func47 (by kernel_rfl) rfl #[.func (.func 48) #[] #[], .float .f64 t185, .float .f64 t186] (by rfl) rfl rfl (by (try simp only [List.map_toArray, List.map_cons, List.map_nil]); first | done | rfl | (simp only [List.length_drop, List.length_take]; rfl)) ?_
 with_reducible refine (pair_step.calls 48 t185 t186 t187 _ A6.out).mono ?_
 rintro e w' ⟨rfl, ⟨nd, rfl⟩⟩
 refine ⟨_, rfl, ?_⟩
 refine hK.out _ _ ⟨(blk_cell BK184.out 0).trans rfl, (blk_cell BK184.out 1).trans rfl⟩ (fun hHeld => ?_)
 clear hK K
 refine norm_ (a' := ?_) ?_ ?_
 rotate_left
 ·show Act.put _ (some 29) _ = _
  simp only [Act.put, List.setIfInBounds_toArray, List.set_cons_zero, List.set_cons_succ, i64_w, i32_w]
  rfl
 refine one_ (i := 7) (N := some 30) #[true, true, true, true, true, true, true, true, false, false, false] rfl rfl (one_of HT_.out (by kernel_rfl)) (by decide) (fun K hK => ?_)
 refine goes_ Try.func47 (by kernel_rfl) rfl #[.func (.func 48) #[] #[], .float .f64 t183, .float .f64 t187] (by rfl) rfl rfl (by (try simp only [List.map_toArray, List.map_cons, List.map_nil]); first | done | rfl | (simp only [List.length_drop, List.length_take]; rfl)) ?_
 with_reducible refine (pair_step.calls 48 t183 t187 t188 _ A7.out).mono ?_
 rintro e w' ⟨rfl, ⟨nd, rfl⟩⟩
 refine ⟨_, rfl, ?_⟩
 refine hK.out _ _ ⟨(blk_cell BK184.out 0).trans rfl, (blk_cell BK184.out 1).trans rfl⟩ (fun hHeld => ?_)
 clear hK K
 refine norm_ (a' := ?_) ?_ ?_
 rotate_left
 ·show Act.put _ (some 30) _ = _
  simp only [Act.put, List.setIfInBounds_toArray, List.set_cons_zero, List.set_cons_succ, i64_w, i32_w]
  rfl
 refine one_ (i := 8) (N := some 31) #[true, true, true, true, true, true, true, true, true, false, false] rfl rfl (one_of HT_.out (by kernel_rfl)) (by decide) (fun K hK => ?_)
 refine goes_ Try.func45 (by kernel_rfl) rfl #[.float .f64 t182, .float .f64 t188] (by rfl) rfl rfl (by (try simp only [List.map_toArray, List.map_cons, List.map_nil]); first | done | rfl | (simp only [List.length_drop, List.length_take]; rfl)) ?_
 with_reducible refine (pair_quick.calls t182 t188 t189 t190 _ A8.out).mono ?_
 rintro e w28 ⟨rfl, hb⟩
 refine ⟨_, rfl, ?_⟩
 have n0_ := kb_ BK179 hb
 have n1_ := kb_ BK180 hb
 have n2_ := kb_ BK181 hb
 have n3_ := kb_ BK184 hb
 have n4_ := bs_ HB hb
 clear BK179
 clear BK180
 clear BK181
 clear BK184
 clear HB
 have BK179 := n0_
 have BK180 := n1_
 have BK181 := n2_
 have BK184 := n3_
 have HB := n4_
 clear n0_ n1_ n2_ n3_ n4_
 (try clear hb)
 (try clear hb2)
 (try clear hk)
 (try clear hi)
 refine hK.out _ _ ⟨(blk_cell BK184.out 0).trans rfl, (blk_cell BK184.out 1).trans rfl⟩ (fun hHeld => ?_)
 clear hK K
 refine norm_ (a' := ?_) ?_ ?_
 rotate_left
 ·show Act.put _ (some 31) _ = _
  simp only [Act.put, List.setIfInBounds_toArray, List.set_cons_zero, List.set_cons_succ, i64_w, i32_w]
  rfl
 refine one_ (i := 9) (N := some 32) #[true, true, true, true, true, true, true, true, true, true, false] rfl rfl (one_of HT_.out (by kernel_rfl)) (by decide) (fun K hK => ?_)
 refine goes_ Try.func40 (by kernel_rfl) rfl #[.agg #[.float .f64 t189, .float .f64 t190]] (by rfl) rfl rfl (by (try simp only [List.map_toArray, List.map_cons, List.map_nil]); first | done | rfl | (simp only [List.length_drop, List.length_take]; rfl)) ?_
 with_reducible refine (pair_two_told.calls t189 t190 t191 t192 _ A9.out).mono ?_
 rintro e w29 ⟨rfl, hb⟩
 refine ⟨_, rfl, ?_⟩
 have n0_ := kb_ BK179 hb
 have n1_ := kb_ BK180 hb
 have n2_ := kb_ BK181 hb
 have n3_ := kb_ BK184 hb
 have n4_ := bs_ HB hb
 clear BK179
 clear BK180
 clear BK181
 clear BK184
 clear HB
 have BK179 := n0_
 have BK180 := n1_
 have BK181 := n2_
 have BK184 := n3_
 have HB := n4_
 clear n0_ n1_ n2_ n3_ n4_
 (try clear hb)
 (try clear hb2)
 (try clear hk)
 (try clear hi)
 refine hK.out _ _ ⟨(blk_cell BK184.out 0).trans rfl, (blk_cell BK184.out 1).trans rfl⟩ (fun hHeld => ?_)
 clear hK K
 refine norm_ (a' := ?_) ?_ ?_
 rotate_left
 ·show Act.put _ (some 32) _ = _
  simp only [Act.put, List.setIfInBounds_toArray, List.set_cons_zero, List.set_cons_succ, i64_w, i32_w]
  rfl
 refine one_ (i := 10) (N := none) #[true, true, true, true, true, true, true, true, true, true, true] rfl rfl (one_of HT_.out (by kernel_rfl)) (by decide) (fun K hK => ?_)
 have hs30 : w29.cell? ⟨gb181, 0, none⟩ = some (.float .f64 0) := (blk_cell BK181.out 0).trans rfl
 have hfs30 := blk_frozen BK181.out 0
 have hns30_0 := NB179_181.out
 have hns30_1 := NB180_181.out
 have hns30_3 := NB184_181.out
 have hms30_0 := NB181_179.out
 have hms30_1 := NB181_180.out
 have hms30_3 := NB181_184.out
 have hs31 : w29.cell? ⟨gb181, 1, none⟩ = some (.float .f64 0) := (blk_cell BK181.out 1).trans rfl
 have hfs31 := blk_frozen BK181.out 1
 have hns31_0 := NB179_181.out
 have hns31_1 := NB180_181.out
 have hns31_3 := NB184_181.out
 have hms31_0 := NB181_179.out
 have hms31_1 := NB181_180.out
 have hms31_3 := NB181_184.out
 refine skip_ (w1 := ?_) (by rfl) rfl ?_ ?_
 rotate_left
 ·go_simp
  rfl
 refine hK.out _ _ ⟨((cell_far (p := ⟨gb181, _, none⟩) NB184_181.out _).trans (((cell_far (p := ⟨gb181, _, none⟩) NB184_181.out _).trans (hHeld.1)))), ((cell_far (p := ⟨gb181, _, none⟩) NB184_181.out _).trans (((cell_far (p := ⟨gb181, _, none⟩) NB184_181.out _).trans (hHeld.2))))⟩ (fun hHeld => ?_)
 clear hK K
 refine done_ (done_of HT_.out (by kernel_rfl)) ?_
 try go_wp2
 refine bodyPost_ret (results_cell_row rfl _ _ gb181 30 #[.float .f64 t191, .float .f64 t192] (0, 0) _ rfl (by (with_reducible repeat (first | apply bN | apply bD | apply bA)); refine blk_put (cs := #[.float .f64 t191, .float .f64 0]) ?_ 1 _ rfl; (with_reducible repeat (first | apply bN | apply bD | apply bA)); refine blk_put (cs := #[.float .f64 0, .float .f64 0]) ?_ 0 _ rfl; (with_reducible repeat (first | apply bN | apply bD | apply bA)); exact BK181.out) Try.underlying30 rfl (by kernel_rfl)) rfl ?_
 exact ⟨by first | rfl | (simp [errW_none, errW_some] <;> rfl) | (simp [*, errW_none, errW_some] <;> rfl), bl_ HB⟩

/-! ### pair_Value: function 27 -/
def pair_Value.f (a0_0 : Nat) (a0_1 : Nat) : Option (Nat) := (pair_step.f 48 a0_0 a0_1).bind fun t194 => (some t194)
set_option maxHeartbeats 3000000 in
set_option maxRecDepth 100000 in
theorem pair_Value.calls (a0_0 : Nat) (a0_1 : Nat) (r : Nat) (w : World) (h : pair_Value.f a0_0 a0_1 = some r) :
  Calls Try.prog 27 #[.agg #[.float .f64 a0_0, .float .f64 a0_1]] w fun e w' => e = .returned (.float .f64 r) ∧ Below w.heap.size w w' := by
 have hu30 := Try.underlying30
 have HB := Aside0.mk (Below.refl w.heap.size w)
 have H : ((pair_step.f 48 a0_0 a0_1).bind fun t194 => (some t194)) = some r := h
 clear h
 obtain ⟨t194, A2, H⟩ := ob_ H
 try dsimp only at H
 obtain rfl := Option.some.inj H
 go_enter Try.func27, Try.ntmps27
 go_wp2_with (first | ((with_reducible refine gate_dst (N := 1) rfl ?_); refine box_event ?hg (N := 1) ?hd (cs := #[.float .f64 a0_0, .float .f64 a0_1]) (t := 30) ?hr ?_; (case hd => rfl); (case hg => rfl); (case hr => first | (go_simp; done) | (go_simp; rfl)); intro gb193 hg w3 hbox hb; have n0_ := bs_ HB hb; have n1_ := Aside0.mk (hbox); have n2_ := ge_ HB hg; have n3_ := ge_ HB hg; clear HB; have HB := n0_; have BK193 := n1_; have GW193 := n2_; have GE193 := n3_; clear n0_ n1_ n2_ n3_; clear hb hbox hg; have hcz4_0 : w3.cell? ⟨gb193, 0, none⟩ = some (.float .f64 a0_0) := (blk_cell BK193.out 0).trans rfl; have hcz4_1 : w3.cell? ⟨gb193, 1, none⟩ = some (.float .f64 a0_1) := (blk_cell BK193.out 1).trans rfl; have hfz4_0 := blk_frozen BK193.out 0; have hfz4_1 := blk_frozen BK193.out 1) | ((with_reducible refine gate_callee (f := 47) rfl ?_); refine goesM (some 7) Try.func47 #[.func (.func 48) #[] #[], .float .f64 a0_0, .float .f64 a0_1] ?_; (with_reducible refine (pair_step.calls 48 a0_0 a0_1 t194 _ A2.out).mono ?_); rintro e w' ⟨rfl, ⟨nd, rfl⟩⟩; refine ⟨_, rfl, ?_⟩))
 go_ret
 exact ⟨by first | rfl | (simp [errW_none, errW_some] <;> rfl) | (simp [*, errW_none, errW_some] <;> rfl), bl_ HB⟩

end Go.Proofs.Ytdemanikmaafeaa.Pr
