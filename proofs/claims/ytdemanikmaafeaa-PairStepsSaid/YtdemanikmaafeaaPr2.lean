-- short
-- written by this session's own program (wip/fprint.py), which widens the kit's print by floats
import Derived.Test.YtdemanikmaafeaaPr0
import Derived.Test.YtdemanikmaafeaaPr1
namespace Go.Proofs.Ytdemanikmaafeaa.Pr
open Go.RowKit Go.Proofs.YtdemanikmaafeaaW.PrintWords Go.Proofs.YtdemanikmaafeaaW.PrintLast Go.Proofs.YtdemanikmaafeaaW.PrintMore
attribute [local go_sem] max2_int min2_int max_two min_two max_three min_three max_four min_four   -- for this text's walks alone
set_option linter.unusedVariables false
set_option linter.unusedSimpArgs false

/-! ### pair_product: function 42 -/
def pair_product.f (a0 : Nat) (a1 : Nat) : Option (Nat × Nat) := (pair_step.f 49 a0 a1).bind fun t132 => ((pair_halves.f a0).bind fun bt133 => ((pair_halves.f a1).bind fun bt135 => ((pair_step.f 49 bt133.1 bt135.1).bind fun t139 => ((pair_step.f 65 t139 t132).bind fun t140 => ((pair_step.f 49 bt133.1 bt135.2).bind fun t141 => ((pair_step.f 48 t140 t141).bind fun t142 => ((pair_step.f 49 bt133.2 bt135.1).bind fun t143 => ((pair_step.f 48 t142 t143).bind fun t144 => ((pair_step.f 49 bt133.2 bt135.2).bind fun t145 => ((pair_step.f 48 t144 t145).bind fun t146 => (some (t132, t146))))))))))))
set_option maxHeartbeats 3000000 in
set_option maxRecDepth 100000 in
theorem pair_product.calls (a0 : Nat) (a1 : Nat) (r1 : Nat) (r2 : Nat) (w : World) (h : pair_product.f a0 a1 = some (r1, r2)) :
  Calls Try.prog 42 #[.float .f64 a0, .float .f64 a1] w fun e w' => e = .returned (.agg #[.float .f64 r1, .float .f64 r2]) ∧ Below w.heap.size w w' := by
 have hu57 := Try.underlying57
 have HB := Aside0.mk (Below.refl w.heap.size w)
 have H : ((pair_step.f 49 a0 a1).bind fun t132 => ((pair_halves.f a0).bind fun bt133 => ((pair_halves.f a1).bind fun bt135 => ((pair_step.f 49 bt133.1 bt135.1).bind fun t139 => ((pair_step.f 65 t139 t132).bind fun t140 => ((pair_step.f 49 bt133.1 bt135.2).bind fun t141 => ((pair_step.f 48 t140 t141).bind fun t142 => ((pair_step.f 49 bt133.2 bt135.1).bind fun t143 => ((pair_step.f 48 t142 t143).bind fun t144 => ((pair_step.f 49 bt133.2 bt135.2).bind fun t145 => ((pair_step.f 48 t144 t145).bind fun t146 => (some (t132, t146))))))))))))) = some (r1, r2) := h
 clear h
 obtain ⟨t132, A3, H⟩ := ob_ H
 try dsimp only at H
 obtain ⟨⟨t133, t134⟩, A4, H⟩ := ob_ H
 try dsimp only at H
 obtain ⟨⟨t135, t136⟩, A5, H⟩ := ob_ H
 try dsimp only at H
 obtain ⟨t139, A6, H⟩ := ob_ H
 try dsimp only at H
 obtain ⟨t140, A7, H⟩ := ob_ H
 try dsimp only at H
 obtain ⟨t141, A8, H⟩ := ob_ H
 try dsimp only at H
 obtain ⟨t142, A9, H⟩ := ob_ H
 try dsimp only at H
 obtain ⟨t143, A10, H⟩ := ob_ H
 try dsimp only at H
 obtain ⟨t144, A11, H⟩ := ob_ H
 try dsimp only at H
 obtain ⟨t145, A12, H⟩ := ob_ H
 try dsimp only at H
 obtain ⟨t146, A13, H⟩ := ob_ H
 try dsimp only at H
 simp only [Option.some.injEq, Prod.mk.injEq] at H
 obtain ⟨rfl, rfl⟩ := H
 go_enter Try.func42, Try.ntmps42
 go_wp2_with (first | ((with_reducible refine gate_dst (N := 4) rfl ?_); refine box_event ?hg (N := 4) ?hd (cs := #[.float .f64 0, .float .f64 0]) (t := 57) ?hr ?_; (case hd => rfl); (case hg => rfl); (case hr => first | (go_simp; done) | (go_simp; rfl)); intro gb131 hg w14 hbox hb; have n0_ := bs_ HB hb; have n1_ := Aside0.mk (hbox); have n2_ := ge_ HB hg; have n3_ := ge_ HB hg; clear HB; have HB := n0_; have BK131 := n1_; have GW131 := n2_; have GE131 := n3_; clear n0_ n1_ n2_ n3_; clear hb hbox hg) | ((with_reducible refine gate_callee (f := 47) rfl ?_); refine goesM (some 11) Try.func47 #[.func (.func 49) #[] #[], .float .f64 a0, .float .f64 a1] ?_; (with_reducible refine (pair_step.calls 49 a0 a1 t132 _ A3.out).mono ?_); rintro e w' ⟨rfl, ⟨nd, rfl⟩⟩; refine ⟨_, rfl, ?_⟩; (try (rw [drewN_self w14]; generalize hq_ : World.drewN w14 _ = w14; have n0_ : Aside0 (w14.heap[gb131]? = some (.cells #[.float .f64 0, .float .f64 0] 57 (0, 0))) := ⟨by rw [← hq_]; exact (bk_ BK131)⟩; have n1_ : Aside0 (Below w.heap.size w w14) := ⟨by rw [← hq_]; exact (bl_ HB)⟩; clear BK131 HB hq_; have BK131 := n0_; have HB := n1_; clear n0_ n1_))) | ((with_reducible refine gate_callee (f := 41) rfl ?_); refine goesM (some 13) Try.func41 #[.float .f64 a0] ?_; (with_reducible refine (pair_halves.calls a0 t133 t134 _ A4.out).mono ?_); rintro e w15 ⟨rfl, hb⟩; refine ⟨_, rfl, ?_⟩; have n0_ := kb_ BK131 hb; have n1_ := bs_ HB hb; clear BK131; clear HB; have BK131 := n0_; have HB := n1_; clear n0_ n1_; (try clear hb); (try clear hb2); (try clear hk); (try clear hi)) | ((with_reducible refine gate_callee (f := 41) rfl ?_); refine goesM (some 15) Try.func41 #[.float .f64 a1] ?_; (with_reducible refine (pair_halves.calls a1 t135 t136 _ A5.out).mono ?_); rintro e w16 ⟨rfl, hb⟩; refine ⟨_, rfl, ?_⟩; have n0_ := kb_ BK131 hb; have n1_ := bs_ HB hb; clear BK131; clear HB; have BK131 := n0_; have HB := n1_; clear n0_ n1_; (try clear hb); (try clear hb2); (try clear hk); (try clear hi)) | ((with_reducible refine gate_dst (N := 6) rfl ?_); refine box_event ?hg (N := 6) ?hd (cs := #[.float .f64 0, .float .f64 0]) (t := 57) ?hr ?_; (case hd => rfl); (case hg => rfl); (case hr => first | (go_simp; done) | (go_simp; rfl)); intro gb137 hg w17 hbox hb; have n0_ := kb_ BK131 hb; have n1_ := bs_ HB hb; have n2_ := Aside0.mk (hbox); have n3_ := ge_ HB hg; have n4_ := ge_ HB hg; have n5_ := nlt_ BK131 hg; have n6_ := ngt_ BK131 hg; clear BK131; clear HB; have BK131 := n0_; have HB := n1_; have BK137 := n2_; have GW137 := n3_; have GE137 := n4_; have NB131_137 := n5_; have NB137_131 := n6_; clear n0_ n1_ n2_ n3_ n4_ n5_ n6_; clear hb hbox hg) | ((with_reducible refine gate_dst (N := 7) rfl ?_); refine box_event ?hg (N := 7) ?hd (cs := #[.float .f64 0, .float .f64 0]) (t := 57) ?hr ?_; (case hd => rfl); (case hg => rfl); (case hr => first | (go_simp; done) | (go_simp; rfl)); intro gb138 hg w18 hbox hb; have n0_ := kb_ BK131 hb; have n1_ := kb_ BK137 hb; have n2_ := bs_ HB hb; have n3_ := Aside0.mk (hbox); have n4_ := ge_ HB hg; have n5_ := ge_ HB hg; have n6_ := nlt_ BK131 hg; have n7_ := ngt_ BK131 hg; have n8_ := nlt_ BK137 hg; have n9_ := ngt_ BK137 hg; clear BK131; clear BK137; clear HB; have BK131 := n0_; have BK137 := n1_; have HB := n2_; have BK138 := n3_; have GW138 := n4_; have GE138 := n5_; have NB131_138 := n6_; have NB138_131 := n7_; have NB137_138 := n8_; have NB138_137 := n9_; clear n0_ n1_ n2_ n3_ n4_ n5_ n6_ n7_ n8_ n9_; clear hb hbox hg; have hnb19 := NB137_131.out; have hnc19 := NB131_137.out; have hnb20 := NB137_138.out; have hnc20 := NB138_137.out; have hcz21_0 : w18.cell? ⟨gb137, 0, none⟩ = some (.float .f64 0) := (blk_cell BK137.out 0).trans rfl; have hcz21_1 : w18.cell? ⟨gb137, 1, none⟩ = some (.float .f64 0) := (blk_cell BK137.out 1).trans rfl; have hfz21_0 := blk_frozen BK137.out 0; have hfz21_1 := blk_frozen BK137.out 1; have hnb22 := NB138_131.out; have hnc22 := NB131_138.out; have hcz23_0 : w18.cell? ⟨gb138, 0, none⟩ = some (.float .f64 0) := (blk_cell BK138.out 0).trans rfl; have hcz23_1 : w18.cell? ⟨gb138, 1, none⟩ = some (.float .f64 0) := (blk_cell BK138.out 1).trans rfl; have hfz23_0 := blk_frozen BK138.out 0; have hfz23_1 := blk_frozen BK138.out 1) | ((with_reducible refine gate_callee (f := 47) rfl ?_); refine goesM (some 20) Try.func47 #[.func (.func 49) #[] #[], .float .f64 t133, .float .f64 t135] ?_; (with_reducible refine (pair_step.calls 49 t133 t135 t139 _ A6.out).mono ?_); rintro e w' ⟨rfl, ⟨nd, rfl⟩⟩; refine ⟨_, rfl, ?_⟩) | ((with_reducible refine gate_callee (f := 47) rfl ?_); refine goesM (some 22) Try.func47 #[.func (.func 65) #[] #[], .float .f64 t139, .float .f64 t132] ?_; (with_reducible refine (pair_step.calls 65 t139 t132 t140 _ A7.out).mono ?_); rintro e w' ⟨rfl, ⟨nd, rfl⟩⟩; refine ⟨_, rfl, ?_⟩) | ((with_reducible refine gate_callee (f := 47) rfl ?_); refine goesM (some 28) Try.func47 #[.func (.func 49) #[] #[], .float .f64 t133, .float .f64 t136] ?_; (with_reducible refine (pair_step.calls 49 t133 t136 t141 _ A8.out).mono ?_); rintro e w' ⟨rfl, ⟨nd, rfl⟩⟩; refine ⟨_, rfl, ?_⟩) | ((with_reducible refine gate_callee (f := 47) rfl ?_); refine goesM (some 29) Try.func47 #[.func (.func 48) #[] #[], .float .f64 t140, .float .f64 t141] ?_; (with_reducible refine (pair_step.calls 48 t140 t141 t142 _ A9.out).mono ?_); rintro e w' ⟨rfl, ⟨nd, rfl⟩⟩; refine ⟨_, rfl, ?_⟩) | ((with_reducible refine gate_callee (f := 47) rfl ?_); refine goesM (some 35) Try.func47 #[.func (.func 49) #[] #[], .float .f64 t134, .float .f64 t135] ?_; (with_reducible refine (pair_step.calls 49 t134 t135 t143 _ A10.out).mono ?_); rintro e w' ⟨rfl, ⟨nd, rfl⟩⟩; refine ⟨_, rfl, ?_⟩) | ((with_reducible refine gate_callee (f := 47) rfl ?_); refine goesM (some 36) Try.func47 #[.func (.func 48) #[] #[], .float .f64 t142, .float .f64 t143] ?_; (with_reducible refine (pair_step.calls 48 t142 t143 t144 _ A11.out).mono ?_); rintro e w' ⟨rfl, ⟨nd, rfl⟩⟩; refine ⟨_, rfl, ?_⟩) | ((with_reducible refine gate_callee (f := 47) rfl ?_); refine goesM (some 42) Try.func47 #[.func (.func 49) #[] #[], .float .f64 t134, .float .f64 t136] ?_; (with_reducible refine (pair_step.calls 49 t134 t136 t145 _ A12.out).mono ?_); rintro e w' ⟨rfl, ⟨nd, rfl⟩⟩; refine ⟨_, rfl, ?_⟩) | ((with_reducible refine gate_callee (f := 47) rfl ?_); refine goesM (some 43) Try.func47 #[.func (.func 48) #[] #[], .float .f64 t144, .float .f64 t145] ?_; (with_reducible refine (pair_step.calls 48 t144 t145 t146 _ A13.out).mono ?_); rintro e w' ⟨rfl, ⟨nd, rfl⟩⟩; refine ⟨_, rfl, ?_⟩; have hcz24_0 : w18.cell? ⟨gb131, 0, none⟩ = some (.float .f64 0) := (blk_cell BK131.out 0).trans rfl; have hcz24_1 : w18.cell? ⟨gb131, 1, none⟩ = some (.float .f64 0) := (blk_cell BK131.out 1).trans rfl; have hfz24_0 := blk_frozen BK131.out 0; have hfz24_1 := blk_frozen BK131.out 1))
 refine bodyPost_ret (results_cell_row rfl _ _ gb131 57 #[.float .f64 t132, .float .f64 t146] (0, 0) _ rfl (by (with_reducible repeat (first | apply bN | apply bD | apply bA)); refine blk_put (cs := #[.float .f64 t132, .float .f64 0]) ?_ 1 _ rfl; (with_reducible repeat (first | apply bN | apply bD | apply bA)); refine blk_put (cs := #[.float .f64 0, .float .f64 0]) ?_ 0 _ rfl; (with_reducible repeat (first | apply bN | apply bD | apply bA)); refine blk_far ?_ NB131_138.out _; (with_reducible repeat (first | apply bN | apply bD | apply bA)); refine blk_far ?_ NB131_138.out _; (with_reducible repeat (first | apply bN | apply bD | apply bA)); refine blk_far ?_ NB131_137.out _; (with_reducible repeat (first | apply bN | apply bD | apply bA)); refine blk_far ?_ NB131_137.out _; (with_reducible repeat (first | apply bN | apply bD | apply bA)); exact BK131.out) Try.underlying57 rfl (by kernel_rfl)) rfl ?_
 exact ⟨by first | rfl | (simp [errW_none, errW_some] <;> rfl) | (simp [*, errW_none, errW_some] <;> rfl), bl_ HB⟩

/-! ### pair_Product: function 14 -/
def pair_Product.f (a0 : Nat) (a1 : Nat) : Option (Nat × Nat) := (pair_product.f a0 a1).bind fun bt148 => ((pair_two_told.f bt148.1 bt148.2).bind fun bt150 => (some (bt150.1, bt150.2)))
set_option maxHeartbeats 3000000 in
set_option maxRecDepth 100000 in
theorem pair_Product.calls (a0 : Nat) (a1 : Nat) (r1 : Nat) (r2 : Nat) (w : World) (h : pair_Product.f a0 a1 = some (r1, r2)) :
  Calls Try.prog 14 #[.float .f64 a0, .float .f64 a1] w fun e w' => e = .returned (.agg #[.float .f64 r1, .float .f64 r2]) ∧ Below w.heap.size w w' := by
 have hu30 := Try.underlying30
 have HB := Aside0.mk (Below.refl w.heap.size w)
 have H : ((pair_product.f a0 a1).bind fun bt148 => ((pair_two_told.f bt148.1 bt148.2).bind fun bt150 => (some (bt150.1, bt150.2)))) = some (r1, r2) := h
 clear h
 obtain ⟨⟨t148, t149⟩, A3, H⟩ := ob_ H
 try dsimp only at H
 obtain ⟨⟨t150, t151⟩, A4, H⟩ := ob_ H
 try dsimp only at H
 simp only [Option.some.injEq, Prod.mk.injEq] at H
 obtain ⟨rfl, rfl⟩ := H
 go_enter Try.func14, Try.ntmps14
 go_wp2_with (first | ((with_reducible refine gate_dst (N := 4) rfl ?_); refine box_event ?hg (N := 4) ?hd (cs := #[.float .f64 0, .float .f64 0]) (t := 30) ?hr ?_; (case hd => rfl); (case hg => rfl); (case hr => first | (go_simp; done) | (go_simp; rfl)); intro gb147 hg w5 hbox hb; have n0_ := bs_ HB hb; have n1_ := Aside0.mk (hbox); have n2_ := ge_ HB hg; have n3_ := ge_ HB hg; clear HB; have HB := n0_; have BK147 := n1_; have GW147 := n2_; have GE147 := n3_; clear n0_ n1_ n2_ n3_; clear hb hbox hg) | ((with_reducible refine gate_callee (f := 42) rfl ?_); refine goesM (some 7) Try.func42 #[.float .f64 a0, .float .f64 a1] ?_; (with_reducible refine (pair_product.calls a0 a1 t148 t149 _ A3.out).mono ?_); rintro e w6 ⟨rfl, hb⟩; refine ⟨_, rfl, ?_⟩; have n0_ := kb_ BK147 hb; have n1_ := bs_ HB hb; clear BK147; clear HB; have BK147 := n0_; have HB := n1_; clear n0_ n1_; (try clear hb); (try clear hb2); (try clear hk); (try clear hi)) | ((with_reducible refine gate_callee (f := 40) rfl ?_); refine goesM (some 8) Try.func40 #[.agg #[.float .f64 t148, .float .f64 t149]] ?_; (with_reducible refine (pair_two_told.calls t148 t149 t150 t151 _ A4.out).mono ?_); rintro e w7 ⟨rfl, hb⟩; refine ⟨_, rfl, ?_⟩; have n0_ := kb_ BK147 hb; have n1_ := bs_ HB hb; clear BK147; clear HB; have BK147 := n0_; have HB := n1_; clear n0_ n1_; (try clear hb); (try clear hb2); (try clear hk); (try clear hi); have hcz8_0 : w7.cell? ⟨gb147, 0, none⟩ = some (.float .f64 0) := (blk_cell BK147.out 0).trans rfl; have hcz8_1 : w7.cell? ⟨gb147, 1, none⟩ = some (.float .f64 0) := (blk_cell BK147.out 1).trans rfl; have hfz8_0 := blk_frozen BK147.out 0; have hfz8_1 := blk_frozen BK147.out 1))
 refine bodyPost_ret (results_cell_row rfl _ _ gb147 30 #[.float .f64 t150, .float .f64 t151] (0, 0) _ rfl (by (with_reducible repeat (first | apply bN | apply bD | apply bA)); refine blk_put (cs := #[.float .f64 t150, .float .f64 0]) ?_ 1 _ rfl; (with_reducible repeat (first | apply bN | apply bD | apply bA)); refine blk_put (cs := #[.float .f64 0, .float .f64 0]) ?_ 0 _ rfl; (with_reducible repeat (first | apply bN | apply bD | apply bA)); exact BK147.out) Try.underlying30 rfl (by kernel_rfl)) rfl ?_
 exact ⟨by first | rfl | (simp [errW_none, errW_some] <;> rfl) | (simp [*, errW_none, errW_some] <;> rfl), bl_ HB⟩

/-! ### steelyardlaw05_power: function 15 -/
def steelyardlaw05_power.f (a0 : Int) : Option (Nat) := if a0 < (-1022) then (if 0 ≤ (IntKind.u64.wrap (wrap64 (a0 + 1074))) then (some ((shl .u64 1 (IntKind.u64.wrap (wrap64 (a0 + 1074))) : Int).toNat)) else (none)) else (some ((IntKind.u64.wrap ((IntKind.u64.wrap (wrap64 (a0 + 1023))) * 4503599627370496) : Int).toNat))
set_option maxHeartbeats 3000000 in
set_option maxRecDepth 100000 in
theorem steelyardlaw05_power.calls (a0 : Int) (r : Nat) (w : World) (h : steelyardlaw05_power.f a0 = some r) :
  Calls Try.prog 15 #[.int .i64 a0] w fun e w' => e = .returned (.float .f64 r) ∧ Drawn0 w w' := by
 have H : (if a0 < (-1022) then (if 0 ≤ (IntKind.u64.wrap (wrap64 (a0 + 1074))) then (some ((shl .u64 1 (IntKind.u64.wrap (wrap64 (a0 + 1074))) : Int).toNat)) else (none)) else (some ((IntKind.u64.wrap ((IntKind.u64.wrap (wrap64 (a0 + 1023))) * 4503599627370496) : Int).toNat))) = some r := h
 clear h
 by_cases c2 : a0 < (-1022)
 ·rw [if_pos c2] at H
  have c2b0 : decide (a0 < (-1022)) = true := decide_eq_true c2
  clear c2
  obtain ⟨ji3, hji3⟩ : ∃ j_ : Int, (IntKind.u64.wrap (wrap64 (a0 + 1074))) = j_ := ⟨_, rfl⟩
  replace H : (if 0 ≤ (ji3) then (some ((shl .u64 1 (ji3) : Int).toNat)) else (none)) = some r := by first | (rw [hji3] at H; exact H) | (simp only [hji3] at H ⊢; exact H)
  by_cases c4 : 0 ≤ (ji3)
  ·rw [if_pos c4] at H
   have c4b0 := eq_true c4
   have c4b1 : decide (0 ≤ (ji3)) = true := decide_eq_true c4
   clear c4
   obtain ⟨ji5, hji5⟩ : ∃ j_ : Int, (shl .u64 1 (ji3)) = j_ := ⟨_, rfl⟩
   replace H : (some ((ji5 : Int).toNat)) = some r := by first | (rw [hji5] at H; exact H) | (simp only [hji5] at H ⊢; exact H)
   have hji5_ : (IntKind.u64.wrap (1 * 2 ^ min (ji3).toNat 64)) = ji5 := hji5
   have hji5z : (ji3) ≤ 64 → (IntKind.u64.wrap (1 * 2 ^ (ji3).toNat)) = ji5 := shl_small hji5
   have hji5u : (IntKind.u64.wrap (2 ^ min (ji3).toNat 64)) = ji5 := by have h_ := hji5_; rw [Int.one_mul] at h_; exact h_
   have hji5v : (ji3) ≤ 64 → (IntKind.u64.wrap (2 ^ (ji3).toNat)) = ji5 := fun hle_ => by have h_ := hji5z hle_; rw [Int.one_mul] at h_; exact h_
   obtain rfl := Option.some.inj H
   go_enter Try.func15, Try.ntmps15
   go_wp2
   go_ret
   exact ⟨by first | rfl | (simp; done) | (simp only [← hji3, ← hji5] <;> (first | rfl | simp)) | (simp [*]; done), by repeat (first | exact Drawn0.refl _ | apply Drawn0.step)⟩
  ·rw [if_neg c4] at H
   exact absurd H (by simp)
 ·rw [if_neg c2] at H
  have c2b0 : decide (a0 < (-1022)) = false := decide_eq_false c2
  clear c2
  obtain rfl := Option.some.inj H
  go_enter Try.func15, Try.ntmps15
  go_wp2
  go_ret
  exact ⟨by first | rfl | (simp; done) | (simp [*]; done), by repeat (first | exact Drawn0.refl _ | apply Drawn0.step)⟩

/-! ### pair_quick: function 45 -/
def pair_quick.f (a0 : Nat) (a1 : Nat) : Option (Nat × Nat) := (pair_step.f 48 a0 a1).bind fun t153 => ((pair_step.f 65 t153 a0).bind fun t154 => ((pair_step.f 65 a1 t154).bind fun t155 => (some (t153, t155))))
set_option maxHeartbeats 3000000 in
set_option maxRecDepth 100000 in
theorem pair_quick.calls (a0 : Nat) (a1 : Nat) (r1 : Nat) (r2 : Nat) (w : World) (h : pair_quick.f a0 a1 = some (r1, r2)) :
  Calls Try.prog 45 #[.float .f64 a0, .float .f64 a1] w fun e w' => e = .returned (.agg #[.float .f64 r1, .float .f64 r2]) ∧ Below w.heap.size w w' := by
 have hu57 := Try.underlying57
 have HB := Aside0.mk (Below.refl w.heap.size w)
 have H : ((pair_step.f 48 a0 a1).bind fun t153 => ((pair_step.f 65 t153 a0).bind fun t154 => ((pair_step.f 65 a1 t154).bind fun t155 => (some (t153, t155))))) = some (r1, r2) := h
 clear h
 obtain ⟨t153, A3, H⟩ := ob_ H
 try dsimp only at H
 obtain ⟨t154, A4, H⟩ := ob_ H
 try dsimp only at H
 obtain ⟨t155, A5, H⟩ := ob_ H
 try dsimp only at H
 simp only [Option.some.injEq, Prod.mk.injEq] at H
 obtain ⟨rfl, rfl⟩ := H
 go_enter Try.func45, Try.ntmps45
 go_wp2_with (first | ((with_reducible refine gate_dst (N := 4) rfl ?_); refine box_event ?hg (N := 4) ?hd (cs := #[.float .f64 0, .float .f64 0]) (t := 57) ?hr ?_; (case hd => rfl); (case hg => rfl); (case hr => first | (go_simp; done) | (go_simp; rfl)); intro gb152 hg w6 hbox hb; have n0_ := bs_ HB hb; have n1_ := Aside0.mk (hbox); have n2_ := ge_ HB hg; have n3_ := ge_ HB hg; clear HB; have HB := n0_; have BK152 := n1_; have GW152 := n2_; have GE152 := n3_; clear n0_ n1_ n2_ n3_; clear hb hbox hg) | ((with_reducible refine gate_callee (f := 47) rfl ?_); refine goesM (some 9) Try.func47 #[.func (.func 48) #[] #[], .float .f64 a0, .float .f64 a1] ?_; (with_reducible refine (pair_step.calls 48 a0 a1 t153 _ A3.out).mono ?_); rintro e w' ⟨rfl, ⟨nd, rfl⟩⟩; refine ⟨_, rfl, ?_⟩; (try (rw [drewN_self w6]; generalize hq_ : World.drewN w6 _ = w6; have n0_ : Aside0 (w6.heap[gb152]? = some (.cells #[.float .f64 0, .float .f64 0] 57 (0, 0))) := ⟨by rw [← hq_]; exact (bk_ BK152)⟩; have n1_ : Aside0 (Below w.heap.size w w6) := ⟨by rw [← hq_]; exact (bl_ HB)⟩; clear BK152 HB hq_; have BK152 := n0_; have HB := n1_; clear n0_ n1_))) | ((with_reducible refine gate_callee (f := 47) rfl ?_); refine goesM (some 12) Try.func47 #[.func (.func 65) #[] #[], .float .f64 t153, .float .f64 a0] ?_; (with_reducible refine (pair_step.calls 65 t153 a0 t154 _ A4.out).mono ?_); rintro e w' ⟨rfl, ⟨nd, rfl⟩⟩; refine ⟨_, rfl, ?_⟩; (try (rw [drewN_self w6]; generalize hq_ : World.drewN w6 _ = w6; have n0_ : Aside0 (w6.heap[gb152]? = some (.cells #[.float .f64 0, .float .f64 0] 57 (0, 0))) := ⟨by rw [← hq_]; exact (bk_ BK152)⟩; have n1_ : Aside0 (Below w.heap.size w w6) := ⟨by rw [← hq_]; exact (bl_ HB)⟩; clear BK152 HB hq_; have BK152 := n0_; have HB := n1_; clear n0_ n1_))) | ((with_reducible refine gate_callee (f := 47) rfl ?_); refine goesM (some 16) Try.func47 #[.func (.func 65) #[] #[], .float .f64 a1, .float .f64 t154] ?_; (with_reducible refine (pair_step.calls 65 a1 t154 t155 _ A5.out).mono ?_); rintro e w' ⟨rfl, ⟨nd, rfl⟩⟩; refine ⟨_, rfl, ?_⟩; (try (rw [drewN_self w6]; generalize hq_ : World.drewN w6 _ = w6; have n0_ : Aside0 (w6.heap[gb152]? = some (.cells #[.float .f64 0, .float .f64 0] 57 (0, 0))) := ⟨by rw [← hq_]; exact (bk_ BK152)⟩; have n1_ : Aside0 (Below w.heap.size w w6) := ⟨by rw [← hq_]; exact (bl_ HB)⟩; clear BK152 HB hq_; have BK152 := n0_; have HB := n1_; clear n0_ n1_)); have hcz7_0 : w6.cell? ⟨gb152, 0, none⟩ = some (.float .f64 0) := (blk_cell BK152.out 0).trans rfl; have hcz7_1 : w6.cell? ⟨gb152, 1, none⟩ = some (.float .f64 0) := (blk_cell BK152.out 1).trans rfl; have hfz7_0 := blk_frozen BK152.out 0; have hfz7_1 := blk_frozen BK152.out 1))
 refine bodyPost_ret (results_cell_row rfl _ _ gb152 57 #[.float .f64 t153, .float .f64 t155] (0, 0) _ rfl (by (with_reducible repeat (first | apply bN | apply bD | apply bA)); refine blk_put (cs := #[.float .f64 t153, .float .f64 0]) ?_ 1 _ rfl; (with_reducible repeat (first | apply bN | apply bD | apply bA)); refine blk_put (cs := #[.float .f64 0, .float .f64 0]) ?_ 0 _ rfl; (with_reducible repeat (first | apply bN | apply bD | apply bA)); exact BK152.out) Try.underlying57 rfl (by kernel_rfl)) rfl ?_
 exact ⟨by first | rfl | (simp [errW_none, errW_some] <;> rfl) | (simp [*, errW_none, errW_some] <;> rfl), bl_ HB⟩

/-! ### pair_Quick: function 18 -/
def pair_Quick.f (a0 : Nat) (a1 : Nat) : Option (Nat × Nat) := (pair_quick.f a0 a1).bind fun bt157 => ((pair_two_told.f bt157.1 bt157.2).bind fun bt159 => (some (bt159.1, bt159.2)))
set_option maxHeartbeats 3000000 in
set_option maxRecDepth 100000 in
theorem pair_Quick.calls (a0 : Nat) (a1 : Nat) (r1 : Nat) (r2 : Nat) (w : World) (h : pair_Quick.f a0 a1 = some (r1, r2)) :
  Calls Try.prog 18 #[.float .f64 a0, .float .f64 a1] w fun e w' => e = .returned (.agg #[.float .f64 r1, .float .f64 r2]) ∧ Below w.heap.size w w' := by
 have hu30 := Try.underlying30
 have HB := Aside0.mk (Below.refl w.heap.size w)
 have H : ((pair_quick.f a0 a1).bind fun bt157 => ((pair_two_told.f bt157.1 bt157.2).bind fun bt159 => (some (bt159.1, bt159.2)))) = some (r1, r2) := h
 clear h
 obtain ⟨⟨t157, t158⟩, A3, H⟩ := ob_ H
 try dsimp only at H
 obtain ⟨⟨t159, t160⟩, A4, H⟩ := ob_ H
 try dsimp only at H
 simp only [Option.some.injEq, Prod.mk.injEq] at H
 obtain ⟨rfl, rfl⟩ := H
 go_enter Try.func18, Try.ntmps18
 go_wp2_with (first | ((with_reducible refine gate_dst (N := 4) rfl ?_); refine box_event ?hg (N := 4) ?hd (cs := #[.float .f64 0, .float .f64 0]) (t := 30) ?hr ?_; (case hd => rfl); (case hg => rfl); (case hr => first | (go_simp; done) | (go_simp; rfl)); intro gb156 hg w5 hbox hb; have n0_ := bs_ HB hb; have n1_ := Aside0.mk (hbox); have n2_ := ge_ HB hg; have n3_ := ge_ HB hg; clear HB; have HB := n0_; have BK156 := n1_; have GW156 := n2_; have GE156 := n3_; clear n0_ n1_ n2_ n3_; clear hb hbox hg) | ((with_reducible refine gate_callee (f := 45) rfl ?_); refine goesM (some 7) Try.func45 #[.float .f64 a0, .float .f64 a1] ?_; (with_reducible refine (pair_quick.calls a0 a1 t157 t158 _ A3.out).mono ?_); rintro e w6 ⟨rfl, hb⟩; refine ⟨_, rfl, ?_⟩; have n0_ := kb_ BK156 hb; have n1_ := bs_ HB hb; clear BK156; clear HB; have BK156 := n0_; have HB := n1_; clear n0_ n1_; (try clear hb); (try clear hb2); (try clear hk); (try clear hi)) | ((with_reducible refine gate_callee (f := 40) rfl ?_); refine goesM (some 8) Try.func40 #[.agg #[.float .f64 t157, .float .f64 t158]] ?_; (with_reducible refine (pair_two_told.calls t157 t158 t159 t160 _ A4.out).mono ?_); rintro e w7 ⟨rfl, hb⟩; refine ⟨_, rfl, ?_⟩; have n0_ := kb_ BK156 hb; have n1_ := bs_ HB hb; clear BK156; clear HB; have BK156 := n0_; have HB := n1_; clear n0_ n1_; (try clear hb); (try clear hb2); (try clear hk); (try clear hi); have hcz8_0 : w7.cell? ⟨gb156, 0, none⟩ = some (.float .f64 0) := (blk_cell BK156.out 0).trans rfl; have hcz8_1 : w7.cell? ⟨gb156, 1, none⟩ = some (.float .f64 0) := (blk_cell BK156.out 1).trans rfl; have hfz8_0 := blk_frozen BK156.out 0; have hfz8_1 := blk_frozen BK156.out 1))
 refine bodyPost_ret (results_cell_row rfl _ _ gb156 30 #[.float .f64 t159, .float .f64 t160] (0, 0) _ rfl (by (with_reducible repeat (first | apply bN | apply bD | apply bA)); refine blk_put (cs := #[.float .f64 t159, .float .f64 0]) ?_ 1 _ rfl; (with_reducible repeat (first | apply bN | apply bD | apply bA)); refine blk_put (cs := #[.float .f64 0, .float .f64 0]) ?_ 0 _ rfl; (with_reducible repeat (first | apply bN | apply bD | apply bA)); exact BK156.out) Try.underlying30 rfl (by kernel_rfl)) rfl ?_
 exact ⟨by first | rfl | (simp [errW_none, errW_some] <;> rfl) | (simp [*, errW_none, errW_some] <;> rfl), bl_ HB⟩

/-! ### pair_num_plus: function 48 -/
def pair_num_plus.f (a0 : Nat) (a1 : Nat) : Option (Nat) := if (FloatKind.f64.format.add a0 a1).isSome = true then (some ((FloatKind.f64.format.add a0 a1).getD 0)) else (none)
set_option maxHeartbeats 3000000 in
set_option maxRecDepth 100000 in
theorem pair_num_plus.calls (a0 : Nat) (a1 : Nat) (r : Nat) (w : World) (h : pair_num_plus.f a0 a1 = some r) :
  Calls Try.prog 48 #[.float .f64 a0, .float .f64 a1] w fun e w' => e = .returned (.float .f64 r) ∧ Drawn0 w w' := by
 have H : (if (FloatKind.f64.format.add a0 a1).isSome = true then (some ((FloatKind.f64.format.add a0 a1).getD 0)) else (none)) = some r := h
 clear h
 by_cases c3 : (FloatKind.f64.format.add a0 a1).isSome = true
 ·rw [if_pos c3] at H
  have c3b0 : (FloatKind.f64.format.add a0 a1).isSome = true := c3
  clear c3
  obtain rfl := Option.some.inj H
  go_enter Try.func48, Try.ntmps48
  go_wp2
  go_ret
  exact ⟨by first | rfl | (simp; done) | (simp [*]; done), by repeat (first | exact Drawn0.refl _ | apply Drawn0.step)⟩
 ·rw [if_neg c3] at H
  exact absurd H (by simp)

end Go.Proofs.Ytdemanikmaafeaa.Pr
