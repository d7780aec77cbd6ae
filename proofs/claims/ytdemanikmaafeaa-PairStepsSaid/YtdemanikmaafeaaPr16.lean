-- short
-- written by this session's own program (wip/fprint.py), which widens the kit's print by floats
import Derived.Test.YtdemanikmaafeaaPr0
import Derived.Test.YtdemanikmaafeaaPr6
namespace Go.Proofs.Ytdemanikmaafeaa.Pr
open Go.RowKit Go.Proofs.YtdemanikmaafeaaW.PrintWords Go.Proofs.YtdemanikmaafeaaW.PrintLast Go.Proofs.YtdemanikmaafeaaW.PrintMore
attribute [local go_sem] max2_int min2_int max_two min_two max_three min_three max_four min_four   -- for this text's walks alone
set_option linter.unusedVariables false
set_option linter.unusedSimpArgs false

/-! ### steelyardref03_Of64: function 71 -/
def steelyardref03_Of64.f  : Option (Int × Int × Int) := some (53, (-1074), 9218868437227405312)
set_option maxHeartbeats 3000000 in
set_option maxRecDepth 100000 in
theorem steelyardref03_Of64.calls  (r1 : Int) (r2 : Int) (r3 : Int) (w : World) (h : steelyardref03_Of64.f  = some (r1, r2, r3)) :
  Calls Try.prog 71 #[] w fun e w' => e = .returned (.agg #[.int .i64 r1, .int .i64 r2, .int .u64 r3]) ∧ Below w.heap.size w w' := by
 have hu83 := Try.underlying83
 have HB := Aside0.mk (Below.refl w.heap.size w)
 have H : (some (53, (-1074), 9218868437227405312)) = some (r1, r2, r3) := h
 clear h
 simp only [Option.some.injEq, Prod.mk.injEq] at H
 obtain ⟨rfl, rfl, rfl⟩ := H
 go_enter Try.func71, Try.ntmps71
 go_wp2_with (first | ((with_reducible refine gate_dst (N := 0) rfl ?_); refine box_event ?hg (N := 0) ?hd (cs := #[.int .i64 0, .int .i64 0, .int .u64 0]) (t := 83) ?hr ?_; (case hd => rfl); (case hg => rfl); (case hr => first | (go_simp; done) | (go_simp; rfl)); intro gb411 hg w1 hbox hb; have n0_ := bs_ HB hb; have n1_ := Aside0.mk (hbox); have n2_ := ge_ HB hg; have n3_ := ge_ HB hg; clear HB; have HB := n0_; have BK411 := n1_; have GW411 := n2_; have GE411 := n3_; clear n0_ n1_ n2_ n3_; clear hb hbox hg; have hcz2_0 : w1.cell? ⟨gb411, 0, none⟩ = some (.int .i64 0) := (blk_cell BK411.out 0).trans rfl; have hcz2_1 : w1.cell? ⟨gb411, 1, none⟩ = some (.int .i64 0) := (blk_cell BK411.out 1).trans rfl; have hcz2_2 : w1.cell? ⟨gb411, 2, none⟩ = some (.int .u64 0) := (blk_cell BK411.out 2).trans rfl; have hfz2_0 := blk_frozen BK411.out 0; have hfz2_1 := blk_frozen BK411.out 1; have hfz2_2 := blk_frozen BK411.out 2))
 refine bodyPost_ret (results_cell_row rfl _ _ gb411 83 #[.int .i64 53, .int .i64 (-1074), .int .u64 9218868437227405312] (0, 0) _ rfl (by (with_reducible repeat (first | apply bN | apply bD | apply bA)); refine blk_put (cs := #[.int .i64 53, .int .i64 (-1074), .int .u64 0]) ?_ 2 _ rfl; (with_reducible repeat (first | apply bN | apply bD | apply bA)); refine blk_put (cs := #[.int .i64 53, .int .i64 0, .int .u64 0]) ?_ 1 _ rfl; (with_reducible repeat (first | apply bN | apply bD | apply bA)); refine blk_put (cs := #[.int .i64 0, .int .i64 0, .int .u64 0]) ?_ 0 _ rfl; (with_reducible repeat (first | apply bN | apply bD | apply bA)); exact BK411.out) Try.underlying83 rfl (by kernel_rfl)) rfl ?_
 exact ⟨by first | rfl | (simp [errW_none, errW_some] <;> rfl) | (simp [*, errW_none, errW_some] <;> rfl), bl_ HB⟩

/-! ### steelyardref02_Of: function 87 -/
def steelyardref02_Of.f (k : Nat) (a0 : Int) : Option (List Int) := (steelyardref02_Norm.f k (([(a0) % 4294967296, (a0 / 4294967296) % 4294967296] : List Int))).bind fun t415 => (some t415)
theorem steelyardref02_Of.mono : ∀ a0 k, LeO (steelyardref02_Of.f k a0) (steelyardref02_Of.f (k + 1) a0) := by
 intro a0 k
 unfold steelyardref02_Of.f
 repeat' first
   | (with_reducible exact steelyardref02_Norm.mono _ _)
   | (with_reducible exact LeO.refl _)
   | (with_reducible exact LeO.none _)
   | (with_reducible refine LeO.ite ?_ ?_)
   | (with_reducible refine LeO.bind ?_ (fun _ => ?_))
   | exact steelyardref02_Norm.mono _ _
   | exact LeO.none _
   | refine LeO.ite ?_ ?_
   | refine LeO.bind ?_ (fun _ => ?_)
set_option maxHeartbeats 3000000 in
set_option maxRecDepth 100000 in
theorem steelyardref02_Of.calls (k : Nat) (a0 : Int) (r : List Int) (w : World) (h : steelyardref02_Of.f k a0 = some r) :
  Calls Try.prog 87 #[.int .u64 a0] w fun e w' => ∃ v0_ : Value, e = .returned (v0_) ∧ Kd.R (Kd.int .u32) 72 w' w.heap.size (fun _ => True) v0_ r ∧ Below w.heap.size w w' := by
 have HB := Aside0.mk (Below.refl w.heap.size w)
 have H : ((steelyardref02_Norm.f k (([(a0) % 4294967296, (a0 / 4294967296) % 4294967296] : List Int))).bind fun t415 => (some t415)) = some r := h
 clear h
 obtain ⟨y412, hy412⟩ : ∃ y_ : List Int, y_ = (([(a0) % 4294967296, (a0 / 4294967296) % 4294967296] : List Int)) := ⟨_, rfl⟩
 replace H : ((steelyardref02_Norm.f k y412).bind fun t415 => (some t415)) = some r := by first | (rw [hy412]; with_reducible exact H) | (have H2_ := (Option.bind_some _ _).symm.trans H; rw [hy412]; with_reducible exact H2_) | (have H2_ := (Option.bind_some _ _).symm.trans H; with_reducible exact H2_) | with_reducible exact H | (rw [hy412]; exact H) | exact H
 have Ny412 := Aside0.mk hy412
 clear hy412
 obtain ⟨t415, A2, H⟩ := ob_ H
 try dsimp only at H
 obtain rfl := Option.some.inj H
 go_enter Try.func87, Try.ntmps87
 go_wp2_with (first | ((with_reducible refine gate_dst (N := 8) rfl ?_); refine Kd.R_lit (Kd.int .u32) _ 72 ?hg (N := 8) ?hd (xs := ([(a0) % 4294967296, (a0 / 4294967296) % 4294967296] : List Int)) (inner := [.int .u32 ((a0) % 4294967296), .int .u32 ((a0 / 4294967296) % 4294967296)]) (ok := fun _ => True) (okp := fun _ => True) ?hr ?hp (fun _ hk => hk) trivial (Below.refl _ _) (Nat.le_refl _) (by simp) ?_; (case hd => rfl); (case hg => rfl); (case hr => first | (go_simp; done) | (go_simp; rfl)); (case hp => exact (Reps.one (show Kd.M (Kd.int .u32) _ _ _ ((a0) % 4294967296) [.int .u32 ((a0) % 4294967296)] from rfl) (Reps.one (show Kd.M (Kd.int .u32) _ _ _ ((a0 / 4294967296) % 4294967296) [.int .u32 ((a0 / 4294967296) % 4294967296)] from rfl) (Reps.none _ _)))); intro v413 w3 ho4 hb hg_ hnew_; clear hg_ hnew_; (first | rw [← Ny412.out] at ho4 | (simp only [Int.reduceToNat] at ho4; rw [← Ny412.out] at ho4)); have n0_ := Aside0.mk (Kd.R_lower ho4 (below_size (bl_ HB))); have n1_ := bs_ HB hb; clear HB; have HO414 := n0_; have HB := n1_; clear n0_ n1_; clear hb ho4; obtain ⟨Ao5, co5, eo5⟩ := Kd.R_slice HO414.out; subst eo5) | ((with_reducible refine gate_callee (f := 78) rfl ?_); refine goesM (some 9) Try.func78 #[.slice Ao5 y412.length co5] ?_; (with_reducible refine (steelyardref02_Norm.calls k _ _ y412 t415 _ ?side1 ?side2 A2.out).mono ?_); (case side1 => repeat (first | exact (Kd.R_reads' HO414.out).2.2 | (with_reducible first | apply cA | apply cN | apply cD))); (case side2 => exact (Kd.R_reads' HO414.out).2.1); rintro e w6 ⟨v416, rfl, ho0, hb⟩; refine ⟨_, rfl, ?_⟩; have n0_ := Aside0.mk (Kd.R_elder' (by (with_reducible repeat (first | apply rA | apply rN | apply rD)); exact HO414.out) (Kd.R_base ho0) hb); have n1_ := Aside0.mk (Kd.R_lower (Kd.R_new' ho0 (Kd.R_lt (by (with_reducible repeat (first | apply rA | apply rN | apply rD)); exact HO414.out))) (below_size (bl_ HB))); have n2_ := bs_ HB hb; clear HO414; clear HB; have HO414 := n0_; have HO417 := n1_; have HB := n2_; clear n0_ n1_ n2_; (try clear hb); (try clear hb2); (try clear hk); (try clear hi); (try clear ho0)))
 go_ret
 exact ⟨_, by first | rfl | (simp [errW_none, errW_some] <;> rfl) | (simp [*, errW_none, errW_some] <;> rfl), by (with_reducible repeat (first | apply rA | apply rN | apply rD)); exact Kd.R_mono HO417.out (fun _ hk => trivial), bl_ HB⟩

/-! ### steelyardref03_Size_Number: function 82 -/
def steelyardref03_Size_Number.f (k : Nat) (a0_0 : Int) (a0_1 : Int) (a0_2 : Int) (a1 : Int) : Option (List Int × Int) := if 0 ≤ (IntKind.u64.wrap (wrap64 (a0_0 - 1))) then (if (shl .u64 1 (IntKind.u64.wrap (wrap64 (a0_0 - 1)))) = 0 then (none) else (if (IntKind.u64.wrap (Int.tdiv a1 (shl .u64 1 (IntKind.u64.wrap (wrap64 (a0_0 - 1)))))) = 0 then ((steelyardref02_Of.f k (Int.tmod a1 (shl .u64 1 (IntKind.u64.wrap (wrap64 (a0_0 - 1)))))).bind fun t419 => (some (t419, a0_1))) else ((steelyardref02_Of.f k (IntKind.u64.wrap ((shl .u64 1 (IntKind.u64.wrap (wrap64 (a0_0 - 1)))) + (Int.tmod a1 (shl .u64 1 (IntKind.u64.wrap (wrap64 (a0_0 - 1)))))))).bind fun t422 => (some (t422, wrap64 ((wrap64 (a0_1 + (wrap64 (IntKind.u64.wrap (Int.tdiv a1 (shl .u64 1 (IntKind.u64.wrap (wrap64 (a0_0 - 1))))))))) - 1)))))) else (none)
theorem steelyardref03_Size_Number.mono : ∀ a0 a1 a2 a3 k, LeO (steelyardref03_Size_Number.f k a0 a1 a2 a3) (steelyardref03_Size_Number.f (k + 1) a0 a1 a2 a3) := by
 intro a0 a1 a2 a3 k
 unfold steelyardref03_Size_Number.f
 repeat' first
   | (with_reducible exact steelyardref02_Of.mono _ _)
   | (with_reducible exact LeO.refl _)
   | (with_reducible exact LeO.none _)
   | (with_reducible refine LeO.ite ?_ ?_)
   | (with_reducible refine LeO.bind ?_ (fun _ => ?_))
   | exact steelyardref02_Of.mono _ _
   | exact LeO.none _
   | refine LeO.ite ?_ ?_
   | refine LeO.bind ?_ (fun _ => ?_)
def steelyardref03_Size_Number.T6 : Bool × List (List Nat × List Nat) := (true, [([], []), ([], []), ([0, 1], [0, 1]), ([2], [2]), ([], []), ([4], [4]), ([], []), ([6], [6]), ([5, 7], [5, 7]), ([8], [8]), ([3, 3, 0, 1, 2, 3], [3]), ([9, 10, 0, 1, 2, 3, 4, 5, 6, 7, 8, 9, 10], [9])])
def steelyardref03_Size_Number.B6 : List Nat := [0, 0, 3, 7, 0, 16, 0, 64, 240, 496, 15, 2047]
theorem steelyardref03_Size_Number.tab6 : rtab .any (opsOf Try.f82 6) = steelyardref03_Size_Number.T6 := by kernel_rfl
theorem steelyardref03_Size_Number.bits6 : waitsOk steelyardref03_Size_Number.T6.2 steelyardref03_Size_Number.B6 = true := by kernel_rfl
set_option maxHeartbeats 3000000 in
set_option maxRecDepth 100000 in
theorem steelyardref03_Size_Number.calls (k : Nat) (a0_0 : Int) (a0_1 : Int) (a0_2 : Int) (a1 : Int) (r1 : List Int) (r2 : Int) (w : World) (h : steelyardref03_Size_Number.f k a0_0 a0_1 a0_2 a1 = some (r1, r2)) :
  Calls Try.prog 82 #[.agg #[.int .i64 a0_0, .int .i64 a0_1, .int .u64 a0_2], .int .u64 a1] w fun e w' => ∃ v0_ : Value, e = .returned (.tuple #[v0_, .int .i64 r2]) ∧ Kd.R (Kd.int .u32) 72 w' w.heap.size (fun _ => True) v0_ r1 ∧ Below w.heap.size w w' := by
 have hu83 := Try.underlying83
 have HB := Aside0.mk (Below.refl w.heap.size w)
 have H : (if 0 ≤ (IntKind.u64.wrap (wrap64 (a0_0 - 1))) then (if (shl .u64 1 (IntKind.u64.wrap (wrap64 (a0_0 - 1)))) = 0 then (none) else (if (IntKind.u64.wrap (Int.tdiv a1 (shl .u64 1 (IntKind.u64.wrap (wrap64 (a0_0 - 1)))))) = 0 then ((steelyardref02_Of.f k (Int.tmod a1 (shl .u64 1 (IntKind.u64.wrap (wrap64 (a0_0 - 1)))))).bind fun t419 => (some (t419, a0_1))) else ((steelyardref02_Of.f k (IntKind.u64.wrap ((shl .u64 1 (IntKind.u64.wrap (wrap64 (a0_0 - 1)))) + (Int.tmod a1 (shl .u64 1 (IntKind.u64.wrap (wrap64 (a0_0 - 1)))))))).bind fun t422 => (some (t422, wrap64 ((wrap64 (a0_1 + (wrap64 (IntKind.u64.wrap (Int.tdiv a1 (shl .u64 1 (IntKind.u64.wrap (wrap64 (a0_0 - 1))))))))) - 1)))))) else (none)) = some (r1, r2) := h
 clear h
 obtain ⟨ji3, hji3⟩ : ∃ j_ : Int, (IntKind.u64.wrap (wrap64 (a0_0 - 1))) = j_ := ⟨_, rfl⟩
 replace H : (if 0 ≤ (ji3) then (if (shl .u64 1 (ji3)) = 0 then (none) else (if (IntKind.u64.wrap (Int.tdiv a1 (shl .u64 1 (ji3)))) = 0 then ((steelyardref02_Of.f k (Int.tmod a1 (shl .u64 1 (ji3)))).bind fun t419 => (some (t419, a0_1))) else ((steelyardref02_Of.f k (IntKind.u64.wrap ((shl .u64 1 (ji3)) + (Int.tmod a1 (shl .u64 1 (ji3)))))).bind fun t422 => (some (t422, wrap64 ((wrap64 (a0_1 + (wrap64 (IntKind.u64.wrap (Int.tdiv a1 (shl .u64 1 (ji3))))))) - 1)))))) else (none)) = some (r1, r2) := by first | (rw [hji3] at H; exact H) | (simp only [hji3] at H ⊢; exact H)
 by_cases c4 : 0 ≤ (ji3)
 ·rw [if_pos c4] at H
  have c4b0 := eq_true c4
  have c4b1 : decide (0 ≤ (ji3)) = true := decide_eq_true c4
  clear c4
  obtain ⟨ji5, hji5⟩ : ∃ j_ : Int, (shl .u64 1 (ji3)) = j_ := ⟨_, rfl⟩
  replace H : (if (ji5) = 0 then (none) else (if (IntKind.u64.wrap (Int.tdiv a1 (ji5))) = 0 then ((steelyardref02_Of.f k (Int.tmod a1 (ji5))).bind fun t419 => (some (t419, a0_1))) else ((steelyardref02_Of.f k (IntKind.u64.wrap ((ji5) + (Int.tmod a1 (ji5))))).bind fun t422 => (some (t422, wrap64 ((wrap64 (a0_1 + (wrap64 (IntKind.u64.wrap (Int.tdiv a1 (ji5)))))) - 1)))))) = some (r1, r2) := by first | (rw [hji5] at H; exact H) | (simp only [hji5] at H ⊢; exact H)
  have hji5_ : (IntKind.u64.wrap (1 * 2 ^ min (ji3).toNat 64)) = ji5 := hji5
  have hji5z : (ji3) ≤ 64 → (IntKind.u64.wrap (1 * 2 ^ (ji3).toNat)) = ji5 := shl_small hji5
  have hji5u : (IntKind.u64.wrap (2 ^ min (ji3).toNat 64)) = ji5 := by have h_ := hji5_; rw [Int.one_mul] at h_; exact h_
  have hji5v : (ji3) ≤ 64 → (IntKind.u64.wrap (2 ^ (ji3).toNat)) = ji5 := fun hle_ => by have h_ := hji5z hle_; rw [Int.one_mul] at h_; exact h_
  by_cases c6 : (ji5) = 0
  ·rw [if_pos c6] at H
   exact absurd H (by simp)
  ·rw [if_neg c6] at H
   have c6b0 : ((ji5) == 0) = false := beq_eq_false_iff_ne.mpr c6
   have c6b1 : ((ji5) != 0) = true := bne_iff_ne.mpr c6
   by_cases c7 : (IntKind.u64.wrap (Int.tdiv a1 (ji5))) = 0
   ·rw [if_pos c7] at H
    have c7b0 : ((IntKind.u64.wrap (Int.tdiv a1 (ji5))) == 0) = true := beq_iff_eq.mpr c7
    have c7b1 : ((IntKind.u64.wrap (Int.tdiv a1 (ji5))) != 0) = false := bne_eq_false_iff_eq.mpr c7
    clear c7
    obtain ⟨t419, A8, H⟩ := ob_ H
    try dsimp only at H
    simp only [Option.some.injEq, Prod.mk.injEq] at H
    obtain ⟨rfl, rfl⟩ := H
    go_enter Try.func82, Try.ntmps82
    try go_wp2_with (first | ((with_reducible refine gate_dst (N := 2) rfl ?_); refine box_event ?hg (N := 2) ?hd (cs := #[.int .i64 a0_0, .int .i64 a0_1, .int .u64 a0_2]) (t := 83) ?hr ?_; (case hd => rfl); (case hg => rfl); (case hr => first | (go_simp; done) | (go_simp; rfl)); intro gb418 hg w9 hbox hb; have n0_ := bs_ HB hb; have n1_ := Aside0.mk (hbox); have n2_ := ge_ HB hg; have n3_ := ge_ HB hg; clear HB; have HB := n0_; have BK418 := n1_; have GW418 := n2_; have GE418 := n3_; clear n0_ n1_ n2_ n3_; clear hb hbox hg; have hcz10_0 : w9.cell? ⟨gb418, 0, none⟩ = some (.int .i64 a0_0) := (blk_cell BK418.out 0).trans rfl; have hcz10_1 : w9.cell? ⟨gb418, 1, none⟩ = some (.int .i64 a0_1) := (blk_cell BK418.out 1).trans rfl; have hcz10_2 : w9.cell? ⟨gb418, 2, none⟩ = some (.int .u64 a0_2) := (blk_cell BK418.out 2).trans rfl; have hfz10_0 := blk_frozen BK418.out 0; have hfz10_1 := blk_frozen BK418.out 1; have hfz10_2 := blk_frozen BK418.out 2))
    have n0_ := Aside0.mk (blk_drew BK418.out)
    have n1_ := Aside0.mk (below_drew1 HB.out)
    clear BK418
    clear HB
    have BK418 := n0_
    have HB := n1_
    clear n0_ n1_
    refine start_ (n := 6) (S := fun w' => w'.cell? ⟨gb418, 0, none⟩ = some (.int .i64 a0_0) ∧ w'.cell? ⟨gb418, 1, none⟩ = some (.int .i64 a0_1) ∧ w'.cell? ⟨gb418, 2, none⟩ = some (.int .u64 a0_2)) (ds := []) #[false, false, false, false, false, false] (by kernel_rfl) rfl rfl ⟨(blk_cell BK418.out 0).trans rfl, (blk_cell BK418.out 1).trans rfl, (blk_cell BK418.out 2).trans rfl⟩ (fun hHeld => ?_)
    generalize w9.drew = w11 at BK418 HB hHeld ⊢
    refine pure_ (i := 0) (N := some 22) (v := ?_) (a' := ?_) #[true, false, false, false, false, false] rfl rfl (by kernel_rfl) (fun _ _ _ h => h) (Or.inl ⟨by rfl, ?_⟩) ?_ ?_
    rotate_left
    ·intro w'
     go_simp
     with_reducible rfl
    rotate_left
    ·simp only [Act.put, List.setIfInBounds_toArray, List.set_cons_zero, List.set_cons_succ, i64_w, i32_w]
     rfl
    refine pure_ (i := 2) (N := some 24) (v := ?_) (a' := ?_) #[true, false, true, false, false, false] rfl rfl (by kernel_rfl) (fun _ _ _ h => h) (Or.inl ⟨by rfl, ?_⟩) ?_ ?_
    rotate_left
    ·intro w'
     go_simp
     with_reducible rfl
    rotate_left
    ·simp only [Act.put, List.setIfInBounds_toArray, List.set_cons_zero, List.set_cons_succ, i64_w, i32_w]
     rfl
    refine take_ (i := 3) (N := some 25) (v := ?_) (a' := ?_) #[true, false, true, true, false, false] rfl rfl (by kernel_rfl) (fun _ _ _ h => h) (Or.inl ⟨by rfl, ?_⟩) hHeld ?_ ?_
    rotate_left
    ·rintro w' ⟨s0, s1, s2⟩
     go_simp
     with_reducible rfl
    rotate_left
    ·simp only [Act.put, List.setIfInBounds_toArray, List.set_cons_zero, List.set_cons_succ, i64_w, i32_w]
     rfl
    refine one_ (i := 1) (N := some 23) #[true, true, true, true, false, false] rfl rfl (by kernel_rfl) (by decide) (fun K hK => ?_)
    refine goes_ Try.func87 (by kernel_rfl) rfl #[.int .u64 (Int.tmod a1 (ji5))] (by rfl) rfl rfl (by (try simp only [List.map_toArray, List.map_cons, List.map_nil]); first | done | (simp only [hji5]; rfl) | rfl | (simp only [List.length_drop, List.length_take]; rfl)) ?_
    with_reducible refine (steelyardref02_Of.calls k (Int.tmod a1 (ji5)) t419 _ A8.out).mono ?_
    rintro e w12 ⟨v420, rfl, ho0, hb⟩
    refine ⟨_, rfl, ?_⟩
    have n0_ := Aside0.mk (Kd.R_lower ho0 (below_size (bl_ HB)))
    have n1_ := kb_ BK418 hb
    have n2_ := bs_ HB hb
    clear BK418
    clear HB
    have HO421 := n0_
    have BK418 := n1_
    have HB := n2_
    clear n0_ n1_ n2_
    (try clear hb)
    (try clear hb2)
    (try clear hk)
    (try clear hi)
    (try clear ho0)
    refine hK.out _ _ ⟨(blk_cell BK418.out 0).trans rfl, (blk_cell BK418.out 1).trans rfl, (blk_cell BK418.out 2).trans rfl⟩ (fun hHeld => ?_)
    clear hK K
    refine norm_ (a' := ?_) ?_ ?_
    rotate_left
    ·show Act.put _ (some 23) _ = _
     simp only [Act.put, List.setIfInBounds_toArray, List.set_cons_zero, List.set_cons_succ, i64_w, i32_w]
     rfl
    refine pure_ (i := 4) (N := some 4) (v := ?_) (a' := ?_) #[true, true, true, true, true, false] rfl rfl (by kernel_rfl) (fun _ _ _ h => h) (Or.inl ⟨by rfl, ?_⟩) ?_ ?_
    rotate_left
    ·intro w'
     go_simp
     with_reducible rfl
    rotate_left
    ·simp only [Act.put, List.setIfInBounds_toArray, List.set_cons_zero, List.set_cons_succ, i64_w, i32_w]
     rfl
    refine pure_ (i := 5) (N := some 5) (v := ?_) (a' := ?_) #[true, true, true, true, true, true] rfl rfl (by kernel_rfl) (fun _ _ _ h => h) (Or.inl ⟨by rfl, ?_⟩) ?_ ?_
    rotate_left
    ·intro w'
     go_simp
     with_reducible rfl
    rotate_left
    ·simp only [Act.put, List.setIfInBounds_toArray, List.set_cons_zero, List.set_cons_succ, i64_w, i32_w]
     rfl
    refine done_ (by kernel_rfl) ?_
    try go_wp2
    go_ret2
    exact ⟨_, by first | rfl | (simp [errW_none, errW_some] <;> rfl) | (simp only [← hji3, ← hji5]; first | rfl | (simp [errW_none, errW_some] <;> rfl)) | (simp [*, errW_none, errW_some] <;> rfl), by (with_reducible repeat (first | apply rA | apply rN | apply rD)); exact HO421.out, bl_ HB⟩
   ·rw [if_neg c7] at H
    have c7b0 : ((IntKind.u64.wrap (Int.tdiv a1 (ji5))) == 0) = false := beq_eq_false_iff_ne.mpr c7
    have c7b1 : ((IntKind.u64.wrap (Int.tdiv a1 (ji5))) != 0) = true := bne_iff_ne.mpr c7
    obtain ⟨t422, A13, H⟩ := ob_ H
    try dsimp only at H
    simp only [Option.some.injEq, Prod.mk.injEq] at H
    obtain ⟨rfl, rfl⟩ := H
    go_enter Try.func82, Try.ntmps82
    try go_wp2_with (first | ((with_reducible refine gate_dst (N := 2) rfl ?_); refine box_event ?hg (N := 2) ?hd (cs := #[.int .i64 a0_0, .int .i64 a0_1, .int .u64 a0_2]) (t := 83) ?hr ?_; (case hd => rfl); (case hg => rfl); (case hr => first | (go_simp; done) | (go_simp; rfl)); intro gb418 hg w14 hbox hb; have n0_ := bs_ HB hb; have n1_ := Aside0.mk (hbox); have n2_ := ge_ HB hg; have n3_ := ge_ HB hg; clear HB; have HB := n0_; have BK418 := n1_; have GW418 := n2_; have GE418 := n3_; clear n0_ n1_ n2_ n3_; clear hb hbox hg; have hcz15_0 : w14.cell? ⟨gb418, 0, none⟩ = some (.int .i64 a0_0) := (blk_cell BK418.out 0).trans rfl; have hcz15_1 : w14.cell? ⟨gb418, 1, none⟩ = some (.int .i64 a0_1) := (blk_cell BK418.out 1).trans rfl; have hcz15_2 : w14.cell? ⟨gb418, 2, none⟩ = some (.int .u64 a0_2) := (blk_cell BK418.out 2).trans rfl; have hfz15_0 := blk_frozen BK418.out 0; have hfz15_1 := blk_frozen BK418.out 1; have hfz15_2 := blk_frozen BK418.out 2))
    have n0_ := Aside0.mk (blk_drew BK418.out)
    have n1_ := Aside0.mk (below_drew1 HB.out)
    clear BK418
    clear HB
    have BK418 := n0_
    have HB := n1_
    clear n0_ n1_
    refine start_ (n := 12) (S := fun w' => w'.cell? ⟨gb418, 0, none⟩ = some (.int .i64 a0_0) ∧ w'.cell? ⟨gb418, 1, none⟩ = some (.int .i64 a0_1) ∧ w'.cell? ⟨gb418, 2, none⟩ = some (.int .u64 a0_2)) (ds := []) #[false, false, false, false, false, false, false, false, false, false, false, false] (by kernel_rfl) rfl rfl ⟨(blk_cell BK418.out 0).trans rfl, (blk_cell BK418.out 1).trans rfl, (blk_cell BK418.out 2).trans rfl⟩ (fun hHeld => ?_); refine with_tabW steelyardref03_Size_Number.tab6 steelyardref03_Size_Number.bits6 (fun HT_ HW_ => ?_)
    generalize w14.drew = w16 at BK418 HB hHeld ⊢
    refine pure_ (i := 0) (N := some 26) (v := ?_) (a' := ?_) #[true, false, false, false, false, false, false, false, false, false, false, false] rfl rfl (any_of HT_.out (by kernel_rfl)) (fun _ _ _ h => h) (Or.inl ⟨by rfl, ?_⟩) ?_ ?_
    rotate_left
    ·intro w'
     go_simp
     with_reducible rfl
    rotate_left
    ·simp only [Act.put, List.setIfInBounds_toArray, List.set_cons_zero, List.set_cons_succ, i64_w, i32_w]
     rfl
    refine pure_ (i := 1) (N := some 27) (v := ?_) (a' := ?_) #[true, true, false, false, false, false, false, false, false, false, false, false] rfl rfl (any_of HT_.out (by kernel_rfl)) (fun _ _ _ h => h) (Or.inl ⟨by rfl, ?_⟩) ?_ ?_
    rotate_left
    ·intro w'
     go_simp
     with_reducible rfl
    rotate_left
    ·simp only [Act.put, List.setIfInBounds_toArray, List.set_cons_zero, List.set_cons_succ, i64_w, i32_w]
     rfl
    refine pure_ (i := 2) (N := some 28) (v := ?_) (a' := ?_) #[true, true, true, false, false, false, false, false, false, false, false, false] rfl rfl (any_of HT_.out (by kernel_rfl)) (fun _ _ _ h => h) (Or.inl ⟨by rfl, ?_⟩) ?_ ?_
    rotate_left
    ·intro w'
     go_simp
     with_reducible rfl
    rotate_left
    ·simp only [Act.put, List.setIfInBounds_toArray, List.set_cons_zero, List.set_cons_succ, i64_w, i32_w]
     rfl
    refine pure_ (i := 4) (N := some 30) (v := ?_) (a' := ?_) #[true, true, true, false, true, false, false, false, false, false, false, false] rfl rfl (any_of HT_.out (by kernel_rfl)) (fun _ _ _ h => h) (Or.inl ⟨by rfl, ?_⟩) ?_ ?_
    rotate_left
    ·intro w'
     go_simp
     with_reducible rfl
    rotate_left
    ·simp only [Act.put, List.setIfInBounds_toArray, List.set_cons_zero, List.set_cons_succ, i64_w, i32_w]
     rfl
    refine pure_ (i := 6) (N := some 32) (v := ?_) (a' := ?_) #[true, true, true, false, true, false, true, false, false, false, false, false] rfl rfl (any_of HT_.out (by kernel_rfl)) (fun _ _ _ h => h) (Or.inl ⟨by rfl, ?_⟩) ?_ ?_
    rotate_left
    ·intro w'
     go_simp
     with_reducible rfl
    rotate_left
    ·simp only [Act.put, List.setIfInBounds_toArray, List.set_cons_zero, List.set_cons_succ, i64_w, i32_w]
     rfl
    refine pure_ (i := 7) (N := some 33) (v := ?_) (a' := ?_) #[true, true, true, false, true, false, true, true, false, false, false, false] rfl rfl (any_of HT_.out (by kernel_rfl)) (fun _ _ _ h => h) (Or.inl ⟨by rfl, ?_⟩) ?_ ?_
    rotate_left
    ·intro w'
     go_simp
     with_reducible rfl
    rotate_left
    ·simp only [Act.put, List.setIfInBounds_toArray, List.set_cons_zero, List.set_cons_succ, i64_w, i32_w]
     rfl
    refine take_ (i := 5) (N := some 31) (v := ?_) (a' := ?_) #[true, true, true, false, true, true, true, true, false, false, false, false] rfl rfl (take_ofW HT_.out HW_.out (by kernel_rfl)) (fun _ _ _ h => h) (Or.inl ⟨by rfl, ?_⟩) hHeld ?_ ?_
    rotate_left
    ·rintro w' ⟨s0, s1, s2⟩
     go_simp
     with_reducible rfl
    rotate_left
    ·simp only [Act.put, List.setIfInBounds_toArray, List.set_cons_zero, List.set_cons_succ, i64_w, i32_w]
     rfl
    refine pure_ (i := 8) (N := some 34) (v := ?_) (a' := ?_) #[true, true, true, false, true, true, true, true, true, false, false, false] rfl rfl (any_of HT_.out (by kernel_rfl)) (fun _ _ _ h => h) (Or.inl ⟨by rfl, ?_⟩) ?_ ?_
    rotate_left
    ·intro w'
     go_simp
     with_reducible rfl
    rotate_left
    ·simp only [Act.put, List.setIfInBounds_toArray, List.set_cons_zero, List.set_cons_succ, i64_w, i32_w]
     rfl
    refine pure_ (i := 9) (N := some 35) (v := ?_) (a' := ?_) #[true, true, true, false, true, true, true, true, true, true, false, false] rfl rfl (any_of HT_.out (by kernel_rfl)) (fun _ _ _ h => h) (Or.inl ⟨by rfl, ?_⟩) ?_ ?_
    rotate_left
    ·intro w'
     go_simp
     with_reducible rfl
    rotate_left
    ·simp only [Act.put, List.setIfInBounds_toArray, List.set_cons_zero, List.set_cons_succ, i64_w, i32_w]
     rfl
    refine one_ (i := 3) (N := some 29) #[true, true, true, true, true, true, true, true, true, true, false, false] rfl rfl (one_of HT_.out (by kernel_rfl)) (by decide) (fun K hK => ?_)
    refine goes_ Try.func87 (by kernel_rfl) rfl #[.int .u64 (IntKind.u64.wrap ((ji5) + (Int.tmod a1 (ji5))))] (by rfl) rfl rfl (by (try simp only [List.map_toArray, List.map_cons, List.map_nil]); first | done | (simp only [hji5]; rfl) | rfl | (simp only [List.length_drop, List.length_take]; rfl)) ?_
    with_reducible refine (steelyardref02_Of.calls k (IntKind.u64.wrap ((ji5) + (Int.tmod a1 (ji5)))) t422 _ A13.out).mono ?_
    rintro e w17 ⟨v423, rfl, ho0, hb⟩
    refine ⟨_, rfl, ?_⟩
    have n0_ := Aside0.mk (Kd.R_lower ho0 (below_size (bl_ HB)))
    have n1_ := kb_ BK418 hb
    have n2_ := bs_ HB hb
    clear BK418
    clear HB
    have HO424 := n0_
    have BK418 := n1_
    have HB := n2_
    clear n0_ n1_ n2_
    (try clear hb)
    (try clear hb2)
    (try clear hk)
    (try clear hi)
    (try clear ho0)
    refine hK.out _ _ ⟨(blk_cell BK418.out 0).trans rfl, (blk_cell BK418.out 1).trans rfl, (blk_cell BK418.out 2).trans rfl⟩ (fun hHeld => ?_)
    clear hK K
    refine norm_ (a' := ?_) ?_ ?_
    rotate_left
    ·show Act.put _ (some 29) _ = _
     simp only [Act.put, List.setIfInBounds_toArray, List.set_cons_zero, List.set_cons_succ, i64_w, i32_w]
     rfl
    refine pure_ (i := 10) (N := some 4) (v := ?_) (a' := ?_) #[true, true, true, true, true, true, true, true, true, true, true, false] rfl rfl (any_of HT_.out (by kernel_rfl)) (fun _ _ _ h => h) (Or.inl ⟨by rfl, ?_⟩) ?_ ?_
    rotate_left
    ·intro w'
     go_simp
     with_reducible rfl
    rotate_left
    ·simp only [Act.put, List.setIfInBounds_toArray, List.set_cons_zero, List.set_cons_succ, i64_w, i32_w]
     rfl
    refine pure_ (i := 11) (N := some 5) (v := ?_) (a' := ?_) #[true, true, true, true, true, true, true, true, true, true, true, true] rfl rfl (any_of HT_.out (by kernel_rfl)) (fun _ _ _ h => h) (Or.inl ⟨by rfl, ?_⟩) ?_ ?_
    rotate_left
    ·intro w'
     go_simp
     with_reducible rfl
    rotate_left
    ·simp only [Act.put, List.setIfInBounds_toArray, List.set_cons_zero, List.set_cons_succ, i64_w, i32_w]
     rfl
    refine done_ (done_of HT_.out (by kernel_rfl)) ?_
    try go_wp2
    go_ret2
    exact ⟨_, by first | rfl | (simp [errW_none, errW_some] <;> rfl) | (simp only [← hji3, ← hji5]; first | rfl | (simp [errW_none, errW_some] <;> rfl)) | (simp [*, errW_none, errW_some] <;> rfl), by (with_reducible repeat (first | apply rA | apply rN | apply rD)); exact HO424.out, bl_ HB⟩
 ·rw [if_neg c4] at H
  exact absurd H (by simp)

end Go.Proofs.Ytdemanikmaafeaa.Pr
