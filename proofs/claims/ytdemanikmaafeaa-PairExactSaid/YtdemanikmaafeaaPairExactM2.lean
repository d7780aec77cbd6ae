import Derived.Test.YtdemanikmaafeaaPairExactM0
import Derived.Test.YtdemanikmaafeaaPairExactM1
-- written by this session's own program (wip/fprint.py), which widens the kit's print by floats
namespace Go.Proofs.Ytdemanikmaafeaa.Pr
open Go.RowKit Go.Proofs.YtdemanikmaafeaaW.PrintWords Go.Proofs.YtdemanikmaafeaaW.PrintLast Go.Proofs.YtdemanikmaafeaaW.PrintMore
attribute [local go_sem] max2_int min2_int max_two min_two max_three min_three max_four min_four   -- for this text's walks alone
set_option linter.unusedVariables false
set_option linter.unusedSimpArgs false

/-! ### r03_Of64: function 71 -/
def r03_Of64.f  : Option (Int × Int × Int) := some (53, (-1074), 9218868437227405312)
set_option maxHeartbeats 3000000 in
set_option maxRecDepth 100000 in
theorem r03_Of64.calls  (r1 : Int) (r2 : Int) (r3 : Int) (w : World) (h : r03_Of64.f  = some (r1, r2, r3)) :
  Calls Try.prog 71 #[] w fun e w' => e = .returned (.agg #[.int .i64 r1, .int .i64 r2, .int .u64 r3]) ∧ Below w.heap.size w w' := by
 have hu83 := Try.underlying83
 have HB := Aside0.mk (Below.refl w.heap.size w)
 have H : (some (53, (-1074), 9218868437227405312)) = some (r1, r2, r3) := h
 clear h
 simp only [Option.some.injEq, Prod.mk.injEq] at H
 obtain ⟨rfl, rfl, rfl⟩ := H
 go_enter Try.func71, Try.ntmps71
 go_wp2_with (first | ((with_reducible refine gate_dst (N := 0) rfl ?_); refine box_event ?hg (N := 0) ?hd (cs := #[.int .i64 0, .int .i64 0, .int .u64 0]) (t := 83) ?hr ?_; (case hd => rfl); (case hg => rfl); (case hr => first | (go_simp; done) | (go_simp; rfl)); intro gb411 hg w1 hbox hb; have n0_ := bs_ HB hb; have n1_ := Aside0.mk (hbox); have n2_ := ge_ HB hg; have n3_ := ge_ HB hg; clear HB; have HB := n0_; have BK411 := n1_; have GW411 := n2_; have GE411 := n3_; clear n0_ n1_ n2_ n3_; clear hb hbox hg; have hcz2_0 : w1.cell? ⟨gb411, 0, none⟩ = some (.int .i64 0) := (blk_cell BK411.out 0).trans rfl; have hcz2_1 : w1.cell? ⟨gb411, 1, none⟩ = some (.int .i64 0) := (blk_cell BK411.out 1).trans rfl; have hcz2_2 : w1.cell? ⟨gb411, 2, none⟩ = some (.int .u64 0) := (blk_cell BK411.out 2).trans rfl; have hfz2_0 := blk_frozen BK411.out 0; have hfz2_1 := blk_frozen BK411.out 1; have hfz2_2 := blk_frozen BK411.out 2))
 refine bodyPost_ret (results_cell_row rfl _ _ gb411 83 #[.int .i64 53, .int .i64 (-1074), .int .u64 9218868437227405312] (0, 0) _ rfl (by (with_reducible repeat (first | apply bN | apply bD | apply bA)); refine blk_put (cs := #[.int .i64 53, .int .i64 (-1074), .int .u64 0]) ?_ 2 _ rfl; (with_reducible repeat (first | apply bN | apply bD | apply bA)); refine blk_put (cs := #[.int .i64 53, .int .i64 0, .int .u64 0]) ?_ 1 _ rfl; (with_reducible repeat (first | apply bN | apply bD | apply bA)); refine blk_put (cs := #[.int .i64 0, .int .i64 0, .int .u64 0]) ?_ 0 _ rfl; exact bk_ BK411) Try.underlying83 rfl (by kernel_rfl)) rfl ?_
 exact ⟨by first | rfl | (simp [errW_none, errW_some] <;> rfl) | (simp [*, errW_none, errW_some] <;> rfl), bl_ HB⟩

/-! ### r02_Of: function 87 -/
def r02_Of.f (k : Nat) (a0 : Int) : Option (List Int) := (r02_Norm.f k (([(a0) % 4294967296, (a0 / 4294967296) % 4294967296] : List Int))).bind fun t415 => (some t415)
theorem r02_Of.mono : ∀ a0 k, LeO (r02_Of.f k a0) (r02_Of.f (k + 1) a0) := by
 intro a0 k
 unfold r02_Of.f
 repeat' first
   | (with_reducible exact r02_Norm.mono _ _)
   | (with_reducible exact LeO.refl _)
   | (with_reducible exact LeO.none _)
   | (with_reducible refine LeO.ite ?_ ?_)
   | (with_reducible refine LeO.bind ?_ (fun _ => ?_))
   | exact r02_Norm.mono _ _
   | exact LeO.none _
   | refine LeO.ite ?_ ?_
   | refine LeO.bind ?_ (fun _ => ?_)
set_option maxHeartbeats 3000000 in
set_option maxRecDepth 100000 in
theorem r02_Of.calls (k : Nat) (a0 : Int) (r : List Int) (w : World) (h : r02_Of.f k a0 = some r) :
  Calls Try.prog 87 #[.int .u64 a0] w fun e w' => ∃ v0_ : Value, e = .returned (v0_) ∧ Kd.R (Kd.int .u32) 72 w' w.heap.size (fun _ => True) v0_ r ∧ Below w.heap.size w w' := by
 have HB := Aside0.mk (Below.refl w.heap.size w)
 have H : ((r02_Norm.f k (([(a0) % 4294967296, (a0 / 4294967296) % 4294967296] : List Int))).bind fun t415 => (some t415)) = some r := h
 clear h
 obtain ⟨y412, hy412⟩ : ∃ y_ : List Int, y_ = (([(a0) % 4294967296, (a0 / 4294967296) % 4294967296] : List Int)) := ⟨_, rfl⟩
 replace H : ((r02_Norm.f k y412).bind fun t415 => (some t415)) = some r := by first | (rw [hy412]; with_reducible exact H) | (have H2_ := (Option.bind_some _ _).symm.trans H; rw [hy412]; with_reducible exact H2_) | (have H2_ := (Option.bind_some _ _).symm.trans H; with_reducible exact H2_) | with_reducible exact H | (rw [hy412]; exact H) | exact H
 have Ny412 := Aside0.mk hy412
 clear hy412
 obtain ⟨t415, A2, H⟩ := ob_ H
 try dsimp only at H
 obtain rfl := Option.some.inj H
 go_enter Try.func87, Try.ntmps87
 go_wp2_with (first | ((with_reducible refine gate_dst (N := 8) rfl ?_); refine Kd.R_lit (Kd.int .u32) _ 72 ?hg (N := 8) ?hd (xs := ([(a0) % 4294967296, (a0 / 4294967296) % 4294967296] : List Int)) (inner := [.int .u32 ((a0) % 4294967296), .int .u32 ((a0 / 4294967296) % 4294967296)]) (ok := fun _ => True) (okp := fun _ => True) ?hr ?hp (fun _ hk => hk) trivial (Below.refl _ _) (Nat.le_refl _) (by simp) ?_; (case hd => rfl); (case hg => rfl); (case hr => first | (go_simp; done) | (go_simp; rfl)); (case hp => exact (Reps.one (show Kd.M (Kd.int .u32) _ _ _ ((a0) % 4294967296) [.int .u32 ((a0) % 4294967296)] from rfl) (Reps.one (show Kd.M (Kd.int .u32) _ _ _ ((a0 / 4294967296) % 4294967296) [.int .u32 ((a0 / 4294967296) % 4294967296)] from rfl) (Reps.none _ _)))); intro v413 w3 ho4 hb hg_ hnew_; clear hg_ hnew_; (first | rw [← Ny412.out] at ho4 | (simp only [Int.reduceToNat] at ho4; rw [← Ny412.out] at ho4)); have n0_ := Aside0.mk (Kd.R_lower ho4 (below_size (bl_ HB))); have n1_ := bs_ HB hb; clear HB; have HO414 := n0_; have HB := n1_; clear n0_ n1_; clear hb ho4; obtain ⟨Ao5, co5, eo5⟩ := Kd.R_slice HO414.out; subst eo5) | ((with_reducible refine gate_callee (f := 78) rfl ?_); refine goesM (some 9) Try.func78 #[.slice Ao5 y412.length co5] ?_; (with_reducible refine (r02_Norm.calls k _ _ y412 t415 _ ?side1 ?side2 A2.out).mono ?_); (case side1 => repeat (first | exact (Kd.R_reads' HO414.out).2.2 | (with_reducible first | apply cA | apply cN | apply cD))); (case side2 => exact (Kd.R_reads' HO414.out).2.1); rintro e w6 ⟨v416, rfl, ho0, hb⟩; refine ⟨_, rfl, ?_⟩; have n0_ := Aside0.mk (Kd.R_elder' (rr_ HO414) (Kd.R_base ho0) hb); have n1_ := Aside0.mk (Kd.R_lower (Kd.R_new' ho0 (Kd.R_lt (rr_ HO414))) (below_size (bl_ HB))); have n2_ := bs_ HB hb; clear HO414; clear HB; have HO414 := n0_; have HO417 := n1_; have HB := n2_; clear n0_ n1_ n2_; (try clear hb); (try clear hb2); (try clear hk); (try clear hi); (try clear ho0)))
 go_ret
 exact ⟨_, by first | rfl | (simp [errW_none, errW_some] <;> rfl) | (simp [*, errW_none, errW_some] <;> rfl), by (with_reducible repeat (first | apply rA | apply rN | apply rD)); exact Kd.R_mono HO417.out (fun _ hk => trivial), bl_ HB⟩

/-! ### r03_Size_Number: function 82 -/
def r03_Size_Number.f (k : Nat) (a0_0 : Int) (a0_1 : Int) (a0_2 : Int) (a1 : Int) : Option (List Int × Int) := if 0 ≤ (IntKind.u64.wrap (wrap64 (a0_0 - 1))) then (if (shl .u64 1 (IntKind.u64.wrap (wrap64 (a0_0 - 1)))) = 0 then (none) else (if (IntKind.u64.wrap (Int.tdiv a1 (shl .u64 1 (IntKind.u64.wrap (wrap64 (a0_0 - 1)))))) = 0 then ((r02_Of.f k (Int.tmod a1 (shl .u64 1 (IntKind.u64.wrap (wrap64 (a0_0 - 1)))))).bind fun t419 => (some (t419, a0_1))) else ((r02_Of.f k (IntKind.u64.wrap ((shl .u64 1 (IntKind.u64.wrap (wrap64 (a0_0 - 1)))) + (Int.tmod a1 (shl .u64 1 (IntKind.u64.wrap (wrap64 (a0_0 - 1)))))))).bind fun t422 => (some (t422, wrap64 ((wrap64 (a0_1 + (wrap64 (IntKind.u64.wrap (Int.tdiv a1 (shl .u64 1 (IntKind.u64.wrap (wrap64 (a0_0 - 1))))))))) - 1)))))) else (none)
theorem r03_Size_Number.mono : ∀ a0 a1 a2 a3 k, LeO (r03_Size_Number.f k a0 a1 a2 a3) (r03_Size_Number.f (k + 1) a0 a1 a2 a3) := by
 intro a0 a1 a2 a3 k
 unfold r03_Size_Number.f
 repeat' first
   | (with_reducible exact r02_Of.mono _ _)
   | (with_reducible exact LeO.refl _)
   | (with_reducible exact LeO.none _)
   | (with_reducible refine LeO.ite ?_ ?_)
   | (with_reducible refine LeO.bind ?_ (fun _ => ?_))
   | exact r02_Of.mono _ _
   | exact LeO.none _
   | refine LeO.ite ?_ ?_
   | refine LeO.bind ?_ (fun _ => ?_)
def r03_Size_Number.T6 : Bool × List (List Nat × List Nat) := (true, [([], []), ([], []), ([0, 1], [0, 1]), ([2], [2]), ([], []), ([4], [4]), ([], []), ([6], [6]), ([5, 7], [5, 7]), ([8], [8]), ([3, 3, 0, 1, 2, 3], [3]), ([9, 10, 0, 1, 2, 3, 4, 5, 6, 7, 8, 9, 10], [9])])
def r03_Size_Number.B6 : List Nat := [0, 0, 3, 7, 0, 16, 0, 64, 240, 496, 15, 2047]
theorem r03_Size_Number.tab6 : rtab .any (opsOf Try.f82 6) = r03_Size_Number.T6 := by kernel_rfl
theorem r03_Size_Number.bits6 : waitsOk r03_Size_Number.T6.2 r03_Size_Number.B6 = true := by kernel_rfl
set_option maxHeartbeats 3000000 in
set_option maxRecDepth 100000 in
theorem r03_Size_Number.calls (k : Nat) (a0_0 : Int) (a0_1 : Int) (a0_2 : Int) (a1 : Int) (r1 : List Int) (r2 : Int) (w : World) (h : r03_Size_Number.f k a0_0 a0_1 a0_2 a1 = some (r1, r2)) :
  Calls Try.prog 82 #[.agg #[.int .i64 a0_0, .int .i64 a0_1, .int .u64 a0_2], .int .u64 a1] w fun e w' => ∃ v0_ : Value, e = .returned (.tuple #[v0_, .int .i64 r2]) ∧ Kd.R (Kd.int .u32) 72 w' w.heap.size (fun _ => True) v0_ r1 ∧ Below w.heap.size w w' := by
 have hu83 := Try.underlying83
 have HB := Aside0.mk (Below.refl w.heap.size w)
 have H : (if 0 ≤ (IntKind.u64.wrap (wrap64 (a0_0 - 1))) then (if (shl .u64 1 (IntKind.u64.wrap (wrap64 (a0_0 - 1)))) = 0 then (none) else (if (IntKind.u64.wrap (Int.tdiv a1 (shl .u64 1 (IntKind.u64.wrap (wrap64 (a0_0 - 1)))))) = 0 then ((r02_Of.f k (Int.tmod a1 (shl .u64 1 (IntKind.u64.wrap (wrap64 (a0_0 - 1)))))).bind fun t419 => (some (t419, a0_1))) else ((r02_Of.f k (IntKind.u64.wrap ((shl .u64 1 (IntKind.u64.wrap (wrap64 (a0_0 - 1)))) + (Int.tmod a1 (shl .u64 1 (IntKind.u64.wrap (wrap64 (a0_0 - 1)))))))).bind fun t422 => (some (t422, wrap64 ((wrap64 (a0_1 + (wrap64 (IntKind.u64.wrap (Int.tdiv a1 (shl .u64 1 (IntKind.u64.wrap (wrap64 (a0_0 - 1))))))))) - 1)))))) else (none)) = some (r1, r2) := h
 clear h
 obtain ⟨ji3, hji3⟩ : ∃ j_ : Int, (IntKind.u64.wrap (wrap64 (a0_0 - 1))) = j_ := ⟨_, rfl⟩
 replace H : (if 0 ≤ (ji3) then (if (shl .u64 1 (ji3)) = 0 then (none) else (if (IntKind.u64.wrap (Int.tdiv a1 (shl .u64 1 (ji3)))) = 0 then ((r02_Of.f k (Int.tmod a1 (shl .u64 1 (ji3)))).bind fun t419 => (some (t419, a0_1))) else ((r02_Of.f k (IntKind.u64.wrap ((shl .u64 1 (ji3)) + (Int.tmod a1 (shl .u64 1 (ji3)))))).bind fun t422 => (some (t422, wrap64 ((wrap64 (a0_1 + (wrap64 (IntKind.u64.wrap (Int.tdiv a1 (shl .u64 1 (ji3))))))) - 1)))))) else (none)) = some (r1, r2) := by first | (rw [hji3] at H; exact H) | (simp only [hji3] at H ⊢; exact H)
 by_cases c4 : 0 ≤ (ji3)
 ·rw [if_pos c4] at H
  have c4b0 := eq_true c4
  have c4b1 : decide (0 ≤ (ji3)) = true := decide_eq_true c4
  clear c4
  obtain ⟨ji5, hji5⟩ : ∃ j_ : Int, (shl .u64 1 (ji3)) = j_ := ⟨_, rfl⟩
  replace H : (if (ji5) = 0 then (none) else (if (IntKind.u64.wrap (Int.tdiv a1 (ji5))) = 0 then ((r02_Of.f k (Int.tmod a1 (ji5))).bind fun t419 => (some (t419, a0_1))) else ((r02_Of.f k (IntKind.u64.wrap ((ji5) + (Int.tmod a1 (ji5))))).bind fun t422 => (some (t422, wrap64 ((wrap64 (a0_1 + (wrap64 (IntKind.u64.wrap (Int.tdiv a1 (ji5)))))) - 1)))))) = some (r1, r2) := by first | (rw [hji5] at H; exact H) | (simp only [hji5] at H ⊢; exact H)
  have hji5_ : (IntKind.u64.wrap (1 * 2 ^ min (ji3).toNat 64)) = ji5 := hji5
  have hji5z : (ji3) ≤ 64 → (IntKind.u64.wrap (1 * 2 ^ (ji3).toNat)) = ji5 := shl_small hji5
  have hji5u : (IntKind.u64.wrap (2 ^ min (ji3).toNat 64)) = ji5 := by have h_ := hji5_; rw [Int.one_mul] at h_; exact h_
  have hji5v : (ji3) ≤ 64 → (IntKind.u64.wrap (2 ^ (ji3).toNat)) = ji5 := fun hle_ => by have h_ := hji5z hle_; rw [Int.one_mul] at h_; exact h_
  by_cases c6 : (ji5) = 0
  ·rw [if_pos c6] at H
   exact absurd H (by simp)
  ·rw [if_neg c6] at H
   have c6b0 : ((ji5) == 0) = false := beq_eq_false_iff_ne.mpr c6
   have c6b1 : ((ji5) != 0) = true := bne_iff_ne.mpr c6
   by_cases c7 : (IntKind.u64.wrap (Int.tdiv a1 (ji5))) = 0
   ·rw [if_pos c7] at H
    have c7b0 : ((IntKind.u64.wrap (Int.tdiv a1 (ji5))) == 0) = true := beq_iff_eq.mpr c7
    have c7b1 : ((IntKind.u64.wrap (Int.tdiv a1 (ji5))) != 0) = false := bne_eq_false_iff_eq.mpr c7
    clear c7
    obtain ⟨t419, A8, H⟩ := ob_ H
    try dsimp only at H
    simp only [Option.some.injEq, Prod.mk.injEq] at H
    obtain ⟨rfl, rfl⟩ := H
    go_enter Try.func82, Try.ntmps82
    try go_wp2_with (first | ((with_reducible refine gate_dst (N := 2) rfl ?_); refine box_event ?hg (N := 2) ?hd (cs := #[.int .i64 a0_0, .int .i64 a0_1, .int .u64 a0_2]) (t := 83) ?hr ?_; (case hd => rfl); (case hg => rfl); (case hr => first | (go_simp; done) | (go_simp; rfl)); intro gb418 hg w9 hbox hb; have n0_ := bs_ HB hb; have n1_ := Aside0.mk (hbox); have n2_ := ge_ HB hg; have n3_ := ge_ HB hg; clear HB; have HB := n0_; have BK418 := n1_; have GW418 := n2_; have GE418 := n3_; clear n0_ n1_ n2_ n3_; clear hb hbox hg; have hcz10_0 : w9.cell? ⟨gb418, 0, none⟩ = some (.int .i64 a0_0) := (blk_cell BK418.out 0).trans rfl; have hcz10_1 : w9.cell? ⟨gb418, 1, none⟩ = some (.int .i64 a0_1) := (blk_cell BK418.out 1).trans rfl; have hcz10_2 : w9.cell? ⟨gb418, 2, none⟩ = some (.int .u64 a0_2) := (blk_cell BK418.out 2).trans rfl; have hfz10_0 := blk_frozen BK418.out 0; have hfz10_1 := blk_frozen BK418.out 1; have hfz10_2 := blk_frozen BK418.out 2))
    have n0_ := Aside0.mk (blk_drew BK418.out)
    have n1_ := Aside0.mk (below_drew1 HB.out)
    clear BK418
    clear HB
    have BK418 := n0_
    have HB := n1_
    clear n0_ n1_
    refine start_ (n := 6) (S := fun w' => w'.cell? ⟨gb418, 0, none⟩ = some (.int .i64 a0_0) ∧ w'.cell? ⟨gb418, 1, none⟩ = some (.int .i64 a0_1) ∧ w'.cell? ⟨gb418, 2, none⟩ = some (.int .u64 a0_2)) (ds := []) #[false, false, false, false, false, false] (by kernel_rfl) rfl rfl ⟨(blk_cell BK418.out 0).trans rfl, (blk_cell BK418.out 1).trans rfl, (blk_cell BK418.out 2).trans rfl⟩ (fun hHeld => ?_)
    generalize w9.drew = w11 at BK418 HB hHeld ⊢
    refine pure_ (i := 0) (N := some 22) (v := ?_) (a' := ?_) #[true, false, false, false, false, false] rfl rfl (by kernel_rfl) (fun _ _ _ h => h) (Or.inl ⟨by rfl, ?_⟩) ?_ ?_
    rotate_left
    ·intro w'
     go_simp
     with_reducible rfl
    rotate_left
    ·simp only [Act.put, List.setIfInBounds_toArray, List.set_cons_zero, List.set_cons_succ, i64_w, i32_w]
     rfl
    refine pure_ (i := 2) (N := some 24) (v := ?_) (a' := ?_) #[true, false, true, false, false, false] rfl rfl (by kernel_rfl) (fun _ _ _ h => h) (Or.inl ⟨by rfl, ?_⟩) ?_ ?_
    rotate_left
    ·intro w'
     go_simp
     with_reducible rfl
    rotate_left
    ·simp only [Act.put, List.setIfInBounds_toArray, List.set_cons_zero, List.set_cons_succ, i64_w, i32_w]
     rfl
    refine take_ (i := 3) (N := some 25) (v := ?_) (a' := ?_) #[true, false, true, true, false, false] rfl rfl (by kernel_rfl) (fun _ _ _ h => h) (Or.inl ⟨by rfl, ?_⟩) hHeld ?_ ?_
    rotate_left
    ·rintro w' ⟨s0, s1, s2⟩
     go_simp
     with_reducible rfl
    rotate_left
    ·simp only [Act.put, List.setIfInBounds_toArray, List.set_cons_zero, List.set_cons_succ, i64_w, i32_w]
     rfl
    refine one_ (i := 1) (N := some 23) #[true, true, true, true, false, false] rfl rfl (by kernel_rfl) (by decide) (fun K hK => ?_)
    refine goes_ Try.func87 (by kernel_rfl) rfl #[.int .u64 (Int.tmod a1 (ji5))] (by rfl) rfl rfl (by (try simp only [List.map_toArray, List.map_cons, List.map_nil]); first | done | (simp only [hji5]; rfl) | rfl | (simp only [List.length_drop, List.length_take]; rfl)) ?_
    with_reducible refine (r02_Of.calls k (Int.tmod a1 (ji5)) t419 _ A8.out).mono ?_
    rintro e w12 ⟨v420, rfl, ho0, hb⟩
    refine ⟨_, rfl, ?_⟩
    have n0_ := Aside0.mk (Kd.R_lower ho0 (below_size (bl_ HB)))
    have n1_ := kb_ BK418 hb
    have n2_ := bs_ HB hb
    clear BK418
    clear HB
    have HO421 := n0_
    have BK418 := n1_
    have HB := n2_
    clear n0_ n1_ n2_
    (try clear hb)
    (try clear hb2)
    (try clear hk)
    (try clear hi)
    (try clear ho0)
    refine hK.out _ _ ⟨(blk_cell BK418.out 0).trans rfl, (blk_cell BK418.out 1).trans rfl, (blk_cell BK418.out 2).trans rfl⟩ (fun hHeld => ?_)
    clear hK K
    refine norm_ (a' := ?_) ?_ ?_
    rotate_left
    ·show Act.put _ (some 23) _ = _
     simp only [Act.put, List.setIfInBounds_toArray, List.set_cons_zero, List.set_cons_succ, i64_w, i32_w]
     rfl
    refine pure_ (i := 4) (N := some 4) (v := ?_) (a' := ?_) #[true, true, true, true, true, false] rfl rfl (by kernel_rfl) (fun _ _ _ h => h) (Or.inl ⟨by rfl, ?_⟩) ?_ ?_
    rotate_left
    ·intro w'
     go_simp
     with_reducible rfl
    rotate_left
    ·simp only [Act.put, List.setIfInBounds_toArray, List.set_cons_zero, List.set_cons_succ, i64_w, i32_w]
     rfl
    refine pure_ (i := 5) (N := some 5) (v := ?_) (a' := ?_) #[true, true, true, true, true, true] rfl rfl (by kernel_rfl) (fun _ _ _ h => h) (Or.inl ⟨by rfl, ?_⟩) ?_ ?_
    rotate_left
    ·intro w'
     go_simp
     with_reducible rfl
    rotate_left
    ·simp only [Act.put, List.setIfInBounds_toArray, List.set_cons_zero, List.set_cons_succ, i64_w, i32_w]
     rfl
    refine done_ (by kernel_rfl) ?_
    try go_wp2
    go_ret2
    exact ⟨_, by first | rfl | (simp [errW_none, errW_some] <;> rfl) | (simp only [← hji3, ← hji5]; first | rfl | (simp [errW_none, errW_some] <;> rfl)) | (simp [*, errW_none, errW_some] <;> rfl), rr_ HO421, bl_ HB⟩
   ·rw [if_neg c7] at H
    have c7b0 : ((IntKind.u64.wrap (Int.tdiv a1 (ji5))) == 0) = false := beq_eq_false_iff_ne.mpr c7
    have c7b1 : ((IntKind.u64.wrap (Int.tdiv a1 (ji5))) != 0) = true := bne_iff_ne.mpr c7
    obtain ⟨t422, A13, H⟩ := ob_ H
    try dsimp only at H
    simp only [Option.some.injEq, Prod.mk.injEq] at H
    obtain ⟨rfl, rfl⟩ := H
    go_enter Try.func82, Try.ntmps82
    try go_wp2_with (first | ((with_reducible refine gate_dst (N := 2) rfl ?_); refine box_event ?hg (N := 2) ?hd (cs := #[.int .i64 a0_0, .int .i64 a0_1, .int .u64 a0_2]) (t := 83) ?hr ?_; (case hd => rfl); (case hg => rfl); (case hr => first | (go_simp; done) | (go_simp; rfl)); intro gb418 hg w14 hbox hb; have n0_ := bs_ HB hb; have n1_ := Aside0.mk (hbox); have n2_ := ge_ HB hg; have n3_ := ge_ HB hg; clear HB; have HB := n0_; have BK418 := n1_; have GW418 := n2_; have GE418 := n3_; clear n0_ n1_ n2_ n3_; clear hb hbox hg; have hcz15_0 : w14.cell? ⟨gb418, 0, none⟩ = some (.int .i64 a0_0) := (blk_cell BK418.out 0).trans rfl; have hcz15_1 : w14.cell? ⟨gb418, 1, none⟩ = some (.int .i64 a0_1) := (blk_cell BK418.out 1).trans rfl; have hcz15_2 : w14.cell? ⟨gb418, 2, none⟩ = some (.int .u64 a0_2) := (blk_cell BK418.out 2).trans rfl; have hfz15_0 := blk_frozen BK418.out 0; have hfz15_1 := blk_frozen BK418.out 1; have hfz15_2 := blk_frozen BK418.out 2))
    have n0_ := Aside0.mk (blk_drew BK418.out)
    have n1_ := Aside0.mk (below_drew1 HB.out)
    clear BK418
    clear HB
    have BK418 := n0_
    have HB := n1_
    clear n0_ n1_
    refine start_ (n := 12) (S := fun w' => w'.cell? ⟨gb418, 0, none⟩ = some (.int .i64 a0_0) ∧ w'.cell? ⟨gb418, 1, none⟩ = some (.int .i64 a0_1) ∧ w'.cell? ⟨gb418, 2, none⟩ = some (.int .u64 a0_2)) (ds := []) #[false, false, false, false, false, false, false, false, false, false, false, false] (by kernel_rfl) rfl rfl ⟨(blk_cell BK418.out 0).trans rfl, (blk_cell BK418.out 1).trans rfl, (blk_cell BK418.out 2).trans rfl⟩ (fun hHeld => ?_); refine with_tabW r03_Size_Number.tab6 r03_Size_Number.bits6 (fun HT_ HW_ => ?_)
    generalize w14.drew = w16 at BK418 HB hHeld ⊢
    refine pure_ (i := 0) (N := some 26) (v := ?_) (a' := ?_) #[true, false, false, false, false, false, false, false, false, false, false, false] rfl rfl (any_of HT_.out (by kernel_rfl)) (fun _ _ _ h => h) (Or.inl ⟨by rfl, ?_⟩) ?_ ?_
    rotate_left
    ·intro w'
     go_simp
     with_reducible rfl
    rotate_left
    ·simp only [Act.put, List.setIfInBounds_toArray, List.set_cons_zero, List.set_cons_succ, i64_w, i32_w]
     rfl
    refine pure_ (i := 1) (N := some 27) (v := ?_) (a' := ?_) #[true, true, false, false, false, false, false, false, false, false, false, false] rfl rfl (any_of HT_.out (by kernel_rfl)) (fun _ _ _ h => h) (Or.inl ⟨by rfl, ?_⟩) ?_ ?_
    rotate_left
    ·intro w'
     go_simp
     with_reducible rfl
    rotate_left
    ·simp only [Act.put, List.setIfInBounds_toArray, List.set_cons_zero, List.set_cons_succ, i64_w, i32_w]
     rfl
    refine pure_ (i := 2) (N := some 28) (v := ?_) (a' := ?_) #[true, true, true, false, false, false, false, false, false, false, false, false] rfl rfl (any_of HT_.out (by kernel_rfl)) (fun _ _ _ h => h) (Or.inl ⟨by rfl, ?_⟩) ?_ ?_
    rotate_left
    ·intro w'
     go_simp
     with_reducible rfl
    rotate_left
    ·simp only [Act.put, List.setIfInBounds_toArray, List.set_cons_zero, List.set_cons_succ, i64_w, i32_w]
     rfl
    refine pure_ (i := 4) (N := some 30) (v := ?_) (a' := ?_) #[true, true, true, false, true, false, false, false, false, false, false, false] rfl rfl (any_of HT_.out (by kernel_rfl)) (fun _ _ _ h => h) (Or.inl ⟨by rfl, ?_⟩) ?_ ?_
    rotate_left
    ·intro w'
     go_simp
     with_reducible rfl
    rotate_left
    ·simp only [Act.put, List.setIfInBounds_toArray, List.set_cons_zero, List.set_cons_succ, i64_w, i32_w]
     rfl
    refine pure_ (i := 6) (N := some 32) (v := ?_) (a' := ?_) #[true, true, true, false, true, false, true, false, false, false, false, false] rfl rfl (any_of HT_.out (by kernel_rfl)) (fun _ _ _ h => h) (Or.inl ⟨by rfl, ?_⟩) ?_ ?_
    rotate_left
    ·intro w'
     go_simp
     with_reducible rfl
    rotate_left
    ·simp only [Act.put, List.setIfInBounds_toArray, List.set_cons_zero, List.set_cons_succ, i64_w, i32_w]
     rfl
    refine pure_ (i := 7) (N := some 33) (v := ?_) (a' := ?_) #[true, true, true, false, true, false, true, true, false, false, false, false] rfl rfl (any_of HT_.out (by kernel_rfl)) (fun _ _ _ h => h) (Or.inl ⟨by rfl, ?_⟩) ?_ ?_
    rotate_left
    ·intro w'
     go_simp
     with_reducible rfl
    rotate_left
    ·simp only [Act.put, List.setIfInBounds_toArray, List.set_cons_zero, List.set_cons_succ, i64_w, i32_w]
     rfl
    refine take_ (i := 5) (N := some 31) (v := ?_) (a' := ?_) #[true, true, true, false, true, true, true, true, false, false, false, false] rfl rfl (take_ofW HT_.out HW_.out (by kernel_rfl)) (fun _ _ _ h => h) (Or.inl ⟨by rfl, ?_⟩) hHeld ?_ ?_
    rotate_left
    ·rintro w' ⟨s0, s1, s2⟩
     go_simp
     with_reducible rfl
    rotate_left
    ·simp only [Act.put, List.setIfInBounds_toArray, List.set_cons_zero, List.set_cons_succ, i64_w, i32_w]
     rfl
    refine pure_ (i := 8) (N := some 34) (v := ?_) (a' := ?_) #[true, true, true, false, true, true, true, true, true, false, false, false] rfl rfl (any_of HT_.out (by kernel_rfl)) (fun _ _ _ h => h) (Or.inl ⟨by rfl, ?_⟩) ?_ ?_
    rotate_left
    ·intro w'
     go_simp
     with_reducible rfl
    rotate_left
    ·simp only [Act.put, List.setIfInBounds_toArray, List.set_cons_zero, List.set_cons_succ, i64_w, i32_w]
     rfl
    refine pure_ (i := 9) (N := some 35) (v := ?_) (a' := ?_) #[true, true, true, false, true, true, true, true, true, true, false, false] rfl rfl (any_of HT_.out (by kernel_rfl)) (fun _ _ _ h => h) (Or.inl ⟨by rfl, ?_⟩) ?_ ?_
    rotate_left
    ·intro w'
     go_simp
     with_reducible rfl
    rotate_left
    ·simp only [Act.put, List.setIfInBounds_toArray, List.set_cons_zero, List.set_cons_succ, i64_w, i32_w]
     rfl
    refine one_ (i := 3) (N := some 29) #[true, true, true, true, true, true, true, true, true, true, false, false] rfl rfl (one_of HT_.out (by kernel_rfl)) (by decide) (fun K hK => ?_)
    refine goes_ Try.func87 (by kernel_rfl) rfl #[.int .u64 (IntKind.u64.wrap ((ji5) + (Int.tmod a1 (ji5))))] (by rfl) rfl rfl (by (try simp only [List.map_toArray, List.map_cons, List.map_nil]); first | done | (simp only [hji5]; rfl) | rfl | (simp only [List.length_drop, List.length_take]; rfl)) ?_
    with_reducible refine (r02_Of.calls k (IntKind.u64.wrap ((ji5) + (Int.tmod a1 (ji5)))) t422 _ A13.out).mono ?_
    rintro e w17 ⟨v423, rfl, ho0, hb⟩
    refine ⟨_, rfl, ?_⟩
    have n0_ := Aside0.mk (Kd.R_lower ho0 (below_size (bl_ HB)))
    have n1_ := kb_ BK418 hb
    have n2_ := bs_ HB hb
    clear BK418
    clear HB
    have HO424 := n0_
    have BK418 := n1_
    have HB := n2_
    clear n0_ n1_ n2_
    (try clear hb)
    (try clear hb2)
    (try clear hk)
    (try clear hi)
    (try clear ho0)
    refine hK.out _ _ ⟨(blk_cell BK418.out 0).trans rfl, (blk_cell BK418.out 1).trans rfl, (blk_cell BK418.out 2).trans rfl⟩ (fun hHeld => ?_)
    clear hK K
    refine norm_ (a' := ?_) ?_ ?_
    rotate_left
    ·show Act.put _ (some 29) _ = _
     simp only [Act.put, List.setIfInBounds_toArray, List.set_cons_zero, List.set_cons_succ, i64_w, i32_w]
     rfl
    refine pure_ (i := 10) (N := some 4) (v := ?_) (a' := ?_) #[true, true, true, true, true, true, true, true, true, true, true, false] rfl rfl (any_of HT_.out (by kernel_rfl)) (fun _ _ _ h => h) (Or.inl ⟨by rfl, ?_⟩) ?_ ?_
    rotate_left
    ·intro w'
     go_simp
     with_reducible rfl
    rotate_left
    ·simp only [Act.put, List.setIfInBounds_toArray, List.set_cons_zero, List.set_cons_succ, i64_w, i32_w]
     rfl
    refine pure_ (i := 11) (N := some 5) (v := ?_) (a' := ?_) #[true, true, true, true, true, true, true, true, true, true, true, true] rfl rfl (any_of HT_.out (by kernel_rfl)) (fun _ _ _ h => h) (Or.inl ⟨by rfl, ?_⟩) ?_ ?_
    rotate_left
    ·intro w'
     go_simp
     with_reducible rfl
    rotate_left
    ·simp only [Act.put, List.setIfInBounds_toArray, List.set_cons_zero, List.set_cons_succ, i64_w, i32_w]
     rfl
    refine done_ (done_of HT_.out (by kernel_rfl)) ?_
    try go_wp2
    go_ret2
    exact ⟨_, by first | rfl | (simp [errW_none, errW_some] <;> rfl) | (simp only [← hji3, ← hji5]; first | rfl | (simp [errW_none, errW_some] <;> rfl)) | (simp [*, errW_none, errW_some] <;> rfl), rr_ HO424, bl_ HB⟩
 ·rw [if_neg c4] at H
  exact absurd H (by simp)

end Go.Proofs.Ytdemanikmaafeaa.Pr
-- written by this session's own program (wip/fprint.py), which widens the kit's print by floats
namespace Go.Proofs.Ytdemanikmaafeaa.Pr
open Go.RowKit Go.Proofs.YtdemanikmaafeaaW.PrintWords Go.Proofs.YtdemanikmaafeaaW.PrintLast Go.Proofs.YtdemanikmaafeaaW.PrintMore
attribute [local go_sem] max2_int min2_int max_two min_two max_three min_three max_four min_four   -- for this text's walks alone
set_option linter.unusedVariables false
set_option linter.unusedSimpArgs false

/-! ### r03_Size_Bits: function 72 -/
def r03_Size_Bits.f (k : Nat) (a0_0 : Int) (a0_1 : Int) (a0_2 : Int) (a1 : Bool) (a2 : Int) : Option (Bool × List Int × Int × Bool) := if a2 ≥ a0_2 then (some (false, ([] : List Int), 0, false)) else ((r03_Size_Number.f k a0_0 a0_1 a0_2 a2).bind fun bt427 => ((r03_Form.f k a1 bt427.1 bt427.2).bind fun bt431 => (some (bt431.1, bt431.2.1, bt431.2.2.1, bt431.2.2.2))))
theorem r03_Size_Bits.mono : ∀ a0 a1 a2 a3 a4 k, LeO (r03_Size_Bits.f k a0 a1 a2 a3 a4) (r03_Size_Bits.f (k + 1) a0 a1 a2 a3 a4) := by
 intro a0 a1 a2 a3 a4 k
 unfold r03_Size_Bits.f
 repeat' first
   | (with_reducible exact r03_Form.mono _ _ _ _)
   | (with_reducible exact r03_Size_Number.mono _ _ _ _ _)
   | (with_reducible exact LeO.refl _)
   | (with_reducible exact LeO.none _)
   | (with_reducible refine LeO.ite ?_ ?_)
   | (with_reducible refine LeO.bind ?_ (fun _ => ?_))
   | exact r03_Form.mono _ _ _ _
   | exact r03_Size_Number.mono _ _ _ _ _
   | exact LeO.none _
   | refine LeO.ite ?_ ?_
   | refine LeO.bind ?_ (fun _ => ?_)
set_option maxHeartbeats 3000000 in
set_option maxRecDepth 100000 in
theorem r03_Size_Bits.calls (k : Nat) (a0_0 : Int) (a0_1 : Int) (a0_2 : Int) (a1 : Bool) (a2 : Int) (r1 : Bool) (r2 : List Int) (r3 : Int) (r4 : Bool) (w : World) (h : r03_Size_Bits.f k a0_0 a0_1 a0_2 a1 a2 = some (r1, r2, r3, r4)) :
  Calls Try.prog 72 #[.agg #[.int .i64 a0_0, .int .i64 a0_1, .int .u64 a0_2], .bool a1, .int .u64 a2] w fun e w' => ∃ v1_ : Value, e = .returned (.tuple #[.agg #[.bool r1, v1_, .int .i64 r3], .bool r4]) ∧ Kd.R (Kd.int .u32) 72 w' w.heap.size (fun _ => True) v1_ r2 ∧ Below w.heap.size w w' := by
 have hu83 := Try.underlying83
 have hu43 := Try.underlying43
 have HB := Aside0.mk (Below.refl w.heap.size w)
 have H : (if a2 ≥ a0_2 then (some (false, ([] : List Int), 0, false)) else ((r03_Size_Number.f k a0_0 a0_1 a0_2 a2).bind fun bt427 => ((r03_Form.f k a1 bt427.1 bt427.2).bind fun bt431 => (some (bt431.1, bt431.2.1, bt431.2.2.1, bt431.2.2.2))))) = some (r1, r2, r3, r4) := h
 clear h
 by_cases c4 : a2 ≥ a0_2
 ·rw [if_pos c4] at H
  have c4b0 : decide (a0_2 ≤ a2) = true := decide_eq_true c4
  clear c4
  simp only [Option.some.injEq, Prod.mk.injEq] at H
  obtain ⟨rfl, rfl, rfl, rfl⟩ := H
  go_enter Try.func72, Try.ntmps72
  go_wp2_with (first | ((with_reducible refine gate_dst (N := 3) rfl ?_); refine box_event ?hg (N := 3) ?hd (cs := #[.int .i64 a0_0, .int .i64 a0_1, .int .u64 a0_2]) (t := 83) ?hr ?_; (case hd => rfl); (case hg => rfl); (case hr => first | (go_simp; done) | (go_simp; rfl)); intro gb425 hg w5 hbox hb; have n0_ := bs_ HB hb; have n1_ := Aside0.mk (hbox); have n2_ := ge_ HB hg; have n3_ := ge_ HB hg; clear HB; have HB := n0_; have BK425 := n1_; have GW425 := n2_; have GE425 := n3_; clear n0_ n1_ n2_ n3_; clear hb hbox hg) | ((with_reducible refine gate_dst (N := 6) rfl ?_); refine box_event ?hg (N := 6) ?hd (cs := #[.bool false, .slice none 0 0, .int .i64 0]) (t := 43) ?hr ?_; (case hd => rfl); (case hg => rfl); (case hr => first | (go_simp; done) | (go_simp; rfl)); intro gb426 hg w6 hbox hb; have n0_ := kb_ BK425 hb; have n1_ := bs_ HB hb; have n2_ := Aside0.mk (hbox); have n3_ := ge_ HB hg; have n4_ := ge_ HB hg; have n5_ := nlt_ BK425 hg; have n6_ := ngt_ BK425 hg; clear BK425; clear HB; have BK425 := n0_; have HB := n1_; have BK426 := n2_; have GW426 := n3_; have GE426 := n4_; have NB425_426 := n5_; have NB426_425 := n6_; clear n0_ n1_ n2_ n3_ n4_ n5_ n6_; clear hb hbox hg; have hnb7 := NB425_426.out; have hnc7 := NB426_425.out; have hcz8_0 : w6.cell? ⟨gb425, 0, none⟩ = some (.int .i64 a0_0) := (blk_cell BK425.out 0).trans rfl; have hcz8_1 : w6.cell? ⟨gb425, 1, none⟩ = some (.int .i64 a0_1) := (blk_cell BK425.out 1).trans rfl; have hcz8_2 : w6.cell? ⟨gb425, 2, none⟩ = some (.int .u64 a0_2) := (blk_cell BK425.out 2).trans rfl; have hfz8_0 := blk_frozen BK425.out 0; have hfz8_1 := blk_frozen BK425.out 1; have hfz8_2 := blk_frozen BK425.out 2; have hcz9_0 : w6.cell? ⟨gb426, 0, none⟩ = some (.bool false) := (blk_cell BK426.out 0).trans rfl; have hcz9_1 : w6.cell? ⟨gb426, 1, none⟩ = some (.slice none 0 0) := (blk_cell BK426.out 1).trans rfl; have hcz9_2 : w6.cell? ⟨gb426, 2, none⟩ = some (.int .i64 0) := (blk_cell BK426.out 2).trans rfl; have hfz9_0 := blk_frozen BK426.out 0; have hfz9_1 := blk_frozen BK426.out 1; have hfz9_2 := blk_frozen BK426.out 2))
  refine bodyPost_ret (results_ct rfl _ _ gb426 43 #[.bool false, .slice none 0 0, .int .i64 0] (0, 0) _ rfl (by (with_reducible repeat (first | apply bN | apply bD | apply bA)); refine blk_put (cs := #[.bool false, .slice none 0 0, .int .i64 0]) ?_ 2 _ rfl; (with_reducible repeat (first | apply bN | apply bD | apply bA)); refine blk_put (cs := #[.bool false, .slice none 0 0, .int .i64 0]) ?_ 1 _ rfl; (with_reducible repeat (first | apply bN | apply bD | apply bA)); refine blk_put (cs := #[.bool false, .slice none 0 0, .int .i64 0]) ?_ 0 _ rfl; exact bk_ BK426) Try.underlying43 rfl (by kernel_rfl)) rfl ?_
  exact ⟨_, by first | rfl | (simp [errW_none, errW_some] <;> rfl) | (simp [*, errW_none, errW_some] <;> rfl), by first | exact Kd.R_nil _ _ _ _ _ | exact Kd.N_nil _ _ _ _ _ | exact Kd.V_nil _ _ _ _ _ | exact Kd.Q_nil _ _ _ _ _ | exact Kd.S_nil _ _ _ _ _, bl_ HB⟩
 ·rw [if_neg c4] at H
  have c4b0 : decide (a0_2 ≤ a2) = false := decide_eq_false c4
  clear c4
  obtain ⟨⟨t427, t430⟩, A10, H⟩ := ob_ H
  try dsimp only at H
  obtain ⟨⟨t431, t432, t435, t436⟩, A11, H⟩ := ob_ H
  try dsimp only at H
  simp only [Option.some.injEq, Prod.mk.injEq] at H
  obtain ⟨rfl, rfl, rfl, rfl⟩ := H
  go_enter Try.func72, Try.ntmps72
  go_wp2_with (first | ((with_reducible refine gate_dst (N := 3) rfl ?_); refine box_event ?hg (N := 3) ?hd (cs := #[.int .i64 a0_0, .int .i64 a0_1, .int .u64 a0_2]) (t := 83) ?hr ?_; (case hd => rfl); (case hg => rfl); (case hr => first | (go_simp; done) | (go_simp; rfl)); intro gb425 hg w12 hbox hb; have n0_ := bs_ HB hb; have n1_ := Aside0.mk (hbox); have n2_ := ge_ HB hg; have n3_ := ge_ HB hg; clear HB; have HB := n0_; have BK425 := n1_; have GW425 := n2_; have GE425 := n3_; clear n0_ n1_ n2_ n3_; clear hb hbox hg) | ((with_reducible refine gate_dst (N := 6) rfl ?_); refine box_event ?hg (N := 6) ?hd (cs := #[.bool false, .slice none 0 0, .int .i64 0]) (t := 43) ?hr ?_; (case hd => rfl); (case hg => rfl); (case hr => first | (go_simp; done) | (go_simp; rfl)); intro gb426 hg w13 hbox hb; have n0_ := kb_ BK425 hb; have n1_ := bs_ HB hb; have n2_ := Aside0.mk (hbox); have n3_ := ge_ HB hg; have n4_ := ge_ HB hg; have n5_ := nlt_ BK425 hg; have n6_ := ngt_ BK425 hg; clear BK425; clear HB; have BK425 := n0_; have HB := n1_; have BK426 := n2_; have GW426 := n3_; have GE426 := n4_; have NB425_426 := n5_; have NB426_425 := n6_; clear n0_ n1_ n2_ n3_ n4_ n5_ n6_; clear hb hbox hg; have hnb14 := NB425_426.out; have hnc14 := NB426_425.out; have hcz15_0 : w13.cell? ⟨gb425, 0, none⟩ = some (.int .i64 a0_0) := (blk_cell BK425.out 0).trans rfl; have hcz15_1 : w13.cell? ⟨gb425, 1, none⟩ = some (.int .i64 a0_1) := (blk_cell BK425.out 1).trans rfl; have hcz15_2 : w13.cell? ⟨gb425, 2, none⟩ = some (.int .u64 a0_2) := (blk_cell BK425.out 2).trans rfl; have hfz15_0 := blk_frozen BK425.out 0; have hfz15_1 := blk_frozen BK425.out 1; have hfz15_2 := blk_frozen BK425.out 2) | ((with_reducible refine gate_callee (f := 82) rfl ?_); refine goesM (some 18) Try.func82 #[.agg #[.int .i64 a0_0, .int .i64 a0_1, .int .u64 a0_2], .int .u64 a2] ?_; (with_reducible refine (r03_Size_Number.calls k a0_0 a0_1 a0_2 a2 t427 t430 _ A10.out).mono ?_); rintro e w16 ⟨v428, rfl, ho0, hb⟩; refine ⟨_, rfl, ?_⟩; have n0_ := Aside0.mk (Kd.R_lower ho0 (below_size (bl_ HB))); have n1_ := kb_ BK425 hb; have n2_ := kb_ BK426 hb; have n3_ := bs_ HB hb; clear BK425; clear BK426; clear HB; have HO429 := n0_; have BK425 := n1_; have BK426 := n2_; have HB := n3_; clear n0_ n1_ n2_ n3_; (try clear hb); (try clear hb2); (try clear hk); (try clear hi); (try clear ho0); obtain ⟨Ao17, co17, eo17⟩ := Kd.R_slice HO429.out; subst eo17) | ((with_reducible refine gate_callee (f := 76) rfl ?_); refine goesM (some 24) Try.func76 #[.bool a1, .slice Ao17 t427.length co17, .int .i64 t430] ?_; (with_reducible refine (r03_Form.calls k a1 _ _ t427 t430 t431 t432 t435 t436 _ ?side1 ?side2 A11.out).mono ?_); (case side1 => repeat (first | exact (Kd.R_reads' HO429.out).2.2 | (with_reducible first | apply cA | apply cN | apply cD))); (case side2 => exact (Kd.R_reads' HO429.out).2.1); rintro e w18 ⟨v433, rfl, ho0, hb⟩; refine ⟨_, rfl, ?_⟩; have n0_ := Aside0.mk (Kd.R_elder' (rr_ HO429) (Kd.R_base ho0) hb); have n1_ := Aside0.mk (Kd.R_lower (Kd.R_new' ho0 (Kd.R_lt (rr_ HO429))) (below_size (bl_ HB))); have n2_ := kb_ BK425 hb; have n3_ := kb_ BK426 hb; have n4_ := bs_ HB hb; clear HO429; clear BK425; clear BK426; clear HB; have HO429 := n0_; have HO434 := n1_; have BK425 := n2_; have BK426 := n3_; have HB := n4_; clear n0_ n1_ n2_ n3_ n4_; (try clear hb); (try clear hb2); (try clear hk); (try clear hi); (try clear ho0); have hcz19_0 : w18.cell? ⟨gb426, 0, none⟩ = some (.bool false) := (blk_cell BK426.out 0).trans rfl; have hcz19_1 : w18.cell? ⟨gb426, 1, none⟩ = some (.slice none 0 0) := (blk_cell BK426.out 1).trans rfl; have hcz19_2 : w18.cell? ⟨gb426, 2, none⟩ = some (.int .i64 0) := (blk_cell BK426.out 2).trans rfl; have hfz19_0 := blk_frozen BK426.out 0; have hfz19_1 := blk_frozen BK426.out 1; have hfz19_2 := blk_frozen BK426.out 2; obtain ⟨Ao20, co20, eo20⟩ := Kd.R_slice HO434.out; subst eo20))
  refine bodyPost_ret (results_ct rfl _ _ gb426 43 #[.bool t431, .slice Ao20 t432.length co20, .int .i64 t435] (0, 0) _ rfl (by (with_reducible repeat (first | apply bN | apply bD | apply bA)); refine blk_put (cs := #[.bool t431, .slice Ao20 t432.length co20, .int .i64 0]) ?_ 2 _ rfl; (with_reducible repeat (first | apply bN | apply bD | apply bA)); refine blk_put (cs := #[.bool t431, .slice none 0 0, .int .i64 0]) ?_ 1 _ rfl; (with_reducible repeat (first | apply bN | apply bD | apply bA)); refine blk_put (cs := #[.bool false, .slice none 0 0, .int .i64 0]) ?_ 0 _ rfl; exact bk_ BK426) Try.underlying43 rfl (by kernel_rfl)) rfl ?_
  exact ⟨_, by first | rfl | (simp [errW_none, errW_some] <;> rfl) | (simp [*, errW_none, errW_some] <;> rfl), by (with_reducible repeat (first | apply rA | apply rN | apply rD)); exact Kd.R_mono (Kd.R_far (p := ⟨gb426, 2, none⟩) (Kd.R_far (p := ⟨gb426, 1, none⟩) (Kd.R_far (p := ⟨gb426, 0, none⟩) (Kd.R_types HO434.out BK426.out (by decide)) (fun _ hk => hk.2) (.bool t431)) (fun _ hk => hk.2) (.slice Ao20 t432.length co20)) (fun _ hk => hk.2) (.int .i64 t435)) (fun _ hk => trivial), bl_ HB⟩

/-! ### r03_Of: function 50 -/
def r03_Of.f (k : Nat) (a0 : Nat) : Option (Bool × List Int × Int × Int) := (r03_Of64.f).bind fun bt438 => ((r03_Size_Bits.f k bt438.1 bt438.2.1 bt438.2.2 (((a0 : Int) / 9223372036854775808) == 1) ((IntKind.u64.wrap ((a0 : Int) * 2)) / 2)).bind fun bt441 => (if bt441.2.2.2 = true then (some (bt441.1, bt441.2.1, bt441.2.2.1, 0)) else (some (false, ([] : List Int), 0, 30))))
theorem r03_Of.mono : ∀ a0 k, LeO (r03_Of.f k a0) (r03_Of.f (k + 1) a0) := by
 intro a0 k
 unfold r03_Of.f
 repeat' first
   | (with_reducible exact r03_Size_Bits.mono _ _ _ _ _ _)
   | (with_reducible exact LeO.refl _)
   | (with_reducible exact LeO.none _)
   | (with_reducible refine LeO.ite ?_ ?_)
   | (with_reducible refine LeO.bind ?_ (fun _ => ?_))
   | exact r03_Size_Bits.mono _ _ _ _ _ _
   | exact LeO.none _
   | refine LeO.ite ?_ ?_
   | refine LeO.bind ?_ (fun _ => ?_)
set_option maxHeartbeats 3000000 in
set_option maxRecDepth 100000 in
theorem r03_Of.calls (k : Nat) (a0 : Nat) (r1 : Bool) (r2 : List Int) (r3 : Int) (r4 : Int) (w : World) (h : r03_Of.f k a0 = some (r1, r2, r3, r4)) :
  Calls Try.prog 50 #[.float .f64 a0] w fun e w' => ∃ v1_ : Value, e = .returned (.tuple #[.agg #[.bool r1, v1_, .int .i64 r3], .int .i64 r4]) ∧ Kd.R (Kd.int .u32) 72 w' w.heap.size (fun _ => True) v1_ r2 ∧ Below w.heap.size w w' := by
 have hu43 := Try.underlying43
 have HB := Aside0.mk (Below.refl w.heap.size w)
 have H : ((r03_Of64.f).bind fun bt438 => ((r03_Size_Bits.f k bt438.1 bt438.2.1 bt438.2.2 (((a0 : Int) / 9223372036854775808) == 1) ((IntKind.u64.wrap ((a0 : Int) * 2)) / 2)).bind fun bt441 => (if bt441.2.2.2 = true then (some (bt441.1, bt441.2.1, bt441.2.2.1, 0)) else (some (false, ([] : List Int), 0, 30))))) = some (r1, r2, r3, r4) := h
 clear h
 obtain ⟨⟨t438, t439, t440⟩, A2, H⟩ := ob_ H
 try dsimp only at H
 obtain ⟨⟨t441, t442, t445, t446⟩, A3, H⟩ := ob_ H
 try dsimp only at H
 by_cases c4 : t446 = true
 ·subst c4
  have H1 : (some (t441, t442, t445, 0)) = some (r1, r2, r3, r4) := by rw [if_pos rfl] at H; exact H
  clear H
  have H := H1
  clear H1
  simp only [Option.some.injEq, Prod.mk.injEq] at H
  obtain ⟨rfl, rfl, rfl, rfl⟩ := H
  go_enter Try.func50, Try.ntmps50
  go_wp2_with (first | ((with_reducible refine gate_dst (N := 2) rfl ?_); refine box_event ?hg (N := 2) ?hd (cs := #[.bool false, .slice none 0 0, .int .i64 0]) (t := 43) ?hr ?_; (case hd => rfl); (case hg => rfl); (case hr => first | (go_simp; done) | (go_simp; rfl)); intro gb437 hg w5 hbox hb; have n0_ := bs_ HB hb; have n1_ := Aside0.mk (hbox); have n2_ := ge_ HB hg; have n3_ := ge_ HB hg; clear HB; have HB := n0_; have BK437 := n1_; have GW437 := n2_; have GE437 := n3_; clear n0_ n1_ n2_ n3_; clear hb hbox hg) | ((with_reducible refine gate_callee (f := 71) rfl ?_); refine goesM (some 10) Try.func71 #[] ?_; (with_reducible refine (r03_Of64.calls  t438 t439 t440 _ A2.out).mono ?_); rintro e w6 ⟨rfl, hb⟩; refine ⟨_, rfl, ?_⟩; have n0_ := kb_ BK437 hb; have n1_ := bs_ HB hb; clear BK437; clear HB; have BK437 := n0_; have HB := n1_; clear n0_ n1_; (try clear hb); (try clear hb2); (try clear hk); (try clear hi)) | ((with_reducible refine gate_callee (f := 72) rfl ?_); refine goesM (some 17) Try.func72 #[.agg #[.int .i64 t438, .int .i64 t439, .int .u64 t440], .bool (((a0 : Int) / 9223372036854775808) == 1), .int .u64 ((IntKind.u64.wrap ((a0 : Int) * 2)) / 2)] ?_; (with_reducible refine (r03_Size_Bits.calls k t438 t439 t440 (((a0 : Int) / 9223372036854775808) == 1) ((IntKind.u64.wrap ((a0 : Int) * 2)) / 2) t441 t442 t445 true _ A3.out).mono ?_); rintro e w7 ⟨v443, rfl, ho0, hb⟩; refine ⟨_, rfl, ?_⟩; have n0_ := Aside0.mk (Kd.R_lower ho0 (below_size (bl_ HB))); have n1_ := kb_ BK437 hb; have n2_ := bs_ HB hb; clear BK437; clear HB; have HO444 := n0_; have BK437 := n1_; have HB := n2_; clear n0_ n1_ n2_; (try clear hb); (try clear hb2); (try clear hk); (try clear hi); (try clear ho0)) | ((with_reducible refine gate_dst (N := 5) rfl ?_); refine box_event ?hg (N := 5) ?hd (cs := #[.bool false, .slice none 0 0, .int .i64 0]) (t := 43) ?hr ?_; (case hd => rfl); (case hg => rfl); (case hr => first | (go_simp; done) | (go_simp; rfl)); intro gb447 hg w8 hbox hb; have n0_ := Aside0.mk (Kd.R_below (rr_ HO444) hb); have n1_ := kb_ BK437 hb; have n2_ := bs_ HB hb; have n3_ := Aside0.mk (hbox); have n4_ := ge_ HB hg; have n5_ := ge_ HB hg; have n6_ := nlt_ BK437 hg; have n7_ := ngt_ BK437 hg; clear HO444; clear BK437; clear HB; have HO444 := n0_; have BK437 := n1_; have HB := n2_; have BK447 := n3_; have GW447 := n4_; have GE447 := n5_; have NB437_447 := n6_; have NB447_437 := n7_; clear n0_ n1_ n2_ n3_ n4_ n5_ n6_ n7_; clear hb hbox hg; have hnb9 := NB447_437.out; have hnc9 := NB437_447.out; have hcz10_0 : w8.cell? ⟨gb447, 0, none⟩ = some (.bool false) := (blk_cell BK447.out 0).trans rfl; have hcz10_1 : w8.cell? ⟨gb447, 1, none⟩ = some (.slice none 0 0) := (blk_cell BK447.out 1).trans rfl; have hcz10_2 : w8.cell? ⟨gb447, 2, none⟩ = some (.int .i64 0) := (blk_cell BK447.out 2).trans rfl; have hfz10_0 := blk_frozen BK447.out 0; have hfz10_1 := blk_frozen BK447.out 1; have hfz10_2 := blk_frozen BK447.out 2; obtain ⟨Ao11, co11, eo11⟩ := Kd.R_slice HO444.out; subst eo11; have hcz12_0 : w8.cell? ⟨gb437, 0, none⟩ = some (.bool false) := (blk_cell BK437.out 0).trans rfl; have hcz12_1 : w8.cell? ⟨gb437, 1, none⟩ = some (.slice none 0 0) := (blk_cell BK437.out 1).trans rfl; have hcz12_2 : w8.cell? ⟨gb437, 2, none⟩ = some (.int .i64 0) := (blk_cell BK437.out 2).trans rfl; have hfz12_0 := blk_frozen BK437.out 0; have hfz12_1 := blk_frozen BK437.out 1; have hfz12_2 := blk_frozen BK437.out 2))
  refine bodyPost_ret (results_ct rfl _ _ gb437 43 #[.bool t441, .slice Ao11 t442.length co11, .int .i64 t445] (0, 0) _ rfl (by (with_reducible repeat (first | apply bN | apply bD | apply bA)); refine blk_put (cs := #[.bool t441, .slice Ao11 t442.length co11, .int .i64 0]) ?_ 2 _ rfl; (with_reducible repeat (first | apply bN | apply bD | apply bA)); refine blk_put (cs := #[.bool t441, .slice none 0 0, .int .i64 0]) ?_ 1 _ rfl; (with_reducible repeat (first | apply bN | apply bD | apply bA)); refine blk_put (cs := #[.bool false, .slice none 0 0, .int .i64 0]) ?_ 0 _ rfl; (with_reducible repeat (first | apply bN | apply bD | apply bA)); refine blk_far ?_ NB437_447.out _; (with_reducible repeat (first | apply bN | apply bD | apply bA)); refine blk_far ?_ NB437_447.out _; (with_reducible repeat (first | apply bN | apply bD | apply bA)); refine blk_far ?_ NB437_447.out _; exact bk_ BK437) Try.underlying43 rfl (by kernel_rfl)) rfl ?_
  exact ⟨_, by first | rfl | (simp [errW_none, errW_some] <;> rfl) | (simp [*, errW_none, errW_some] <;> rfl), by (with_reducible repeat (first | apply rA | apply rN | apply rD)); exact Kd.R_mono (Kd.R_far (p := ⟨gb437, 2, none⟩) (Kd.R_far (p := ⟨gb437, 1, none⟩) (Kd.R_far (p := ⟨gb437, 0, none⟩) (Kd.R_far (p := ⟨gb447, 2, none⟩) (Kd.R_far (p := ⟨gb447, 1, none⟩) (Kd.R_far (p := ⟨gb447, 0, none⟩) (Kd.R_types (Kd.R_types HO444.out BK447.out (by decide)) BK437.out (by decide)) (fun _ hk => hk.1.2) (.bool t441)) (fun _ hk => hk.1.2) (.slice Ao11 t442.length co11)) (fun _ hk => hk.1.2) (.int .i64 t445)) (fun _ hk => hk.2) (.bool t441)) (fun _ hk => hk.2) (.slice Ao11 t442.length co11)) (fun _ hk => hk.2) (.int .i64 t445)) (fun _ hk => trivial), bl_ HB⟩
 ·replace c4 := Bool.eq_false_iff.mpr c4
  subst c4
  have H1 : (some (false, ([] : List Int), 0, 30)) = some (r1, r2, r3, r4) := by rw [if_neg (show ¬ (false = true) by decide)] at H; exact H
  clear H
  have H := H1
  clear H1
  simp only [Option.some.injEq, Prod.mk.injEq] at H
  obtain ⟨rfl, rfl, rfl, rfl⟩ := H
  go_enter Try.func50, Try.ntmps50
  go_wp2_with (first | ((with_reducible refine gate_dst (N := 2) rfl ?_); refine box_event ?hg (N := 2) ?hd (cs := #[.bool false, .slice none 0 0, .int .i64 0]) (t := 43) ?hr ?_; (case hd => rfl); (case hg => rfl); (case hr => first | (go_simp; done) | (go_simp; rfl)); intro gb437 hg w13 hbox hb; have n0_ := bs_ HB hb; have n1_ := Aside0.mk (hbox); have n2_ := ge_ HB hg; have n3_ := ge_ HB hg; clear HB; have HB := n0_; have BK437 := n1_; have GW437 := n2_; have GE437 := n3_; clear n0_ n1_ n2_ n3_; clear hb hbox hg) | ((with_reducible refine gate_callee (f := 71) rfl ?_); refine goesM (some 10) Try.func71 #[] ?_; (with_reducible refine (r03_Of64.calls  t438 t439 t440 _ A2.out).mono ?_); rintro e w14 ⟨rfl, hb⟩; refine ⟨_, rfl, ?_⟩; have n0_ := kb_ BK437 hb; have n1_ := bs_ HB hb; clear BK437; clear HB; have BK437 := n0_; have HB := n1_; clear n0_ n1_; (try clear hb); (try clear hb2); (try clear hk); (try clear hi)) | ((with_reducible refine gate_callee (f := 72) rfl ?_); refine goesM (some 17) Try.func72 #[.agg #[.int .i64 t438, .int .i64 t439, .int .u64 t440], .bool (((a0 : Int) / 9223372036854775808) == 1), .int .u64 ((IntKind.u64.wrap ((a0 : Int) * 2)) / 2)] ?_; (with_reducible refine (r03_Size_Bits.calls k t438 t439 t440 (((a0 : Int) / 9223372036854775808) == 1) ((IntKind.u64.wrap ((a0 : Int) * 2)) / 2) t441 t442 t445 false _ A3.out).mono ?_); rintro e w15 ⟨v443, rfl, ho0, hb⟩; refine ⟨_, rfl, ?_⟩; have n0_ := Aside0.mk (Kd.R_lower ho0 (below_size (bl_ HB))); have n1_ := kb_ BK437 hb; have n2_ := bs_ HB hb; clear BK437; clear HB; have HO444 := n0_; have BK437 := n1_; have HB := n2_; clear n0_ n1_ n2_; (try clear hb); (try clear hb2); (try clear hk); (try clear hi); (try clear ho0)) | ((with_reducible refine gate_dst (N := 5) rfl ?_); refine box_event ?hg (N := 5) ?hd (cs := #[.bool false, .slice none 0 0, .int .i64 0]) (t := 43) ?hr ?_; (case hd => rfl); (case hg => rfl); (case hr => first | (go_simp; done) | (go_simp; rfl)); intro gb447 hg w16 hbox hb; have n0_ := Aside0.mk (Kd.R_below (rr_ HO444) hb); have n1_ := kb_ BK437 hb; have n2_ := bs_ HB hb; have n3_ := Aside0.mk (hbox); have n4_ := ge_ HB hg; have n5_ := ge_ HB hg; have n6_ := nlt_ BK437 hg; have n7_ := ngt_ BK437 hg; clear HO444; clear BK437; clear HB; have HO444 := n0_; have BK437 := n1_; have HB := n2_; have BK447 := n3_; have GW447 := n4_; have GE447 := n5_; have NB437_447 := n6_; have NB447_437 := n7_; clear n0_ n1_ n2_ n3_ n4_ n5_ n6_ n7_; clear hb hbox hg; have hnb17 := NB447_437.out; have hnc17 := NB437_447.out; have hcz18_0 : w16.cell? ⟨gb447, 0, none⟩ = some (.bool false) := (blk_cell BK447.out 0).trans rfl; have hcz18_1 : w16.cell? ⟨gb447, 1, none⟩ = some (.slice none 0 0) := (blk_cell BK447.out 1).trans rfl; have hcz18_2 : w16.cell? ⟨gb447, 2, none⟩ = some (.int .i64 0) := (blk_cell BK447.out 2).trans rfl; have hfz18_0 := blk_frozen BK447.out 0; have hfz18_1 := blk_frozen BK447.out 1; have hfz18_2 := blk_frozen BK447.out 2; obtain ⟨Ao19, co19, eo19⟩ := Kd.R_slice HO444.out; subst eo19; have hcz20_0 : w16.cell? ⟨gb437, 0, none⟩ = some (.bool false) := (blk_cell BK437.out 0).trans rfl; have hcz20_1 : w16.cell? ⟨gb437, 1, none⟩ = some (.slice none 0 0) := (blk_cell BK437.out 1).trans rfl; have hcz20_2 : w16.cell? ⟨gb437, 2, none⟩ = some (.int .i64 0) := (blk_cell BK437.out 2).trans rfl; have hfz20_0 := blk_frozen BK437.out 0; have hfz20_1 := blk_frozen BK437.out 1; have hfz20_2 := blk_frozen BK437.out 2))
  refine bodyPost_ret (results_ct rfl _ _ gb437 43 #[.bool false, .slice none 0 0, .int .i64 0] (0, 0) _ rfl (by (with_reducible repeat (first | apply bN | apply bD | apply bA)); refine blk_put (cs := #[.bool false, .slice none 0 0, .int .i64 0]) ?_ 2 _ rfl; (with_reducible repeat (first | apply bN | apply bD | apply bA)); refine blk_put (cs := #[.bool false, .slice none 0 0, .int .i64 0]) ?_ 1 _ rfl; (with_reducible repeat (first | apply bN | apply bD | apply bA)); refine blk_put (cs := #[.bool false, .slice none 0 0, .int .i64 0]) ?_ 0 _ rfl; (with_reducible repeat (first | apply bN | apply bD | apply bA)); refine blk_far ?_ NB437_447.out _; (with_reducible repeat (first | apply bN | apply bD | apply bA)); refine blk_far ?_ NB437_447.out _; (with_reducible repeat (first | apply bN | apply bD | apply bA)); refine blk_far ?_ NB437_447.out _; exact bk_ BK437) Try.underlying43 rfl (by kernel_rfl)) rfl ?_
  exact ⟨_, by first | rfl | (simp [errW_none, errW_some] <;> rfl) | (simp [*, errW_none, errW_some] <;> rfl), by first | exact Kd.R_nil _ _ _ _ _ | exact Kd.N_nil _ _ _ _ _ | exact Kd.V_nil _ _ _ _ _ | exact Kd.Q_nil _ _ _ _ _ | exact Kd.S_nil _ _ _ _ _, bl_ HB⟩

/-! ### r05_IsOdd: function 66 -/
def r05_IsOdd.f (a0 : Nat) : Option (Bool) := some (decide ((Go.bits .andNot .u64 (a0 : Int) 9223372036854775808) > 9218868437227405312))
set_option maxHeartbeats 3000000 in
set_option maxRecDepth 100000 in
theorem r05_IsOdd.calls (a0 : Nat) (r : Bool) (w : World) (h : r05_IsOdd.f a0 = some r) :
  Calls Try.prog 66 #[.float .f64 a0] w fun e w' => e = .returned (.bool r) ∧ Drawn0 w w' := by
 have H : (some (decide ((Go.bits .andNot .u64 (a0 : Int) 9223372036854775808) > 9218868437227405312))) = some r := h
 clear h
 obtain rfl := Option.some.inj H
 go_enter Try.func66, Try.ntmps66
 go_wp2
 go_ret
 exact ⟨by first | rfl | (simp; done) | (simp [*]; done), by repeat (first | exact Drawn0.refl _ | apply Drawn0.step)⟩

/-! ### r05_IsEndless: function 67 -/
def r05_IsEndless.f (a0 : Nat) : Option (Bool) := some ((Go.bits .andNot .u64 (a0 : Int) 9223372036854775808) == 9218868437227405312)
set_option maxHeartbeats 3000000 in
set_option maxRecDepth 100000 in
theorem r05_IsEndless.calls (a0 : Nat) (r : Bool) (w : World) (h : r05_IsEndless.f a0 = some r) :
  Calls Try.prog 67 #[.float .f64 a0] w fun e w' => e = .returned (.bool r) ∧ Drawn0 w w' := by
 have H : (some ((Go.bits .andNot .u64 (a0 : Int) 9223372036854775808) == 9218868437227405312)) = some r := h
 clear h
 obtain rfl := Option.some.inj H
 go_enter Try.func67, Try.ntmps67
 go_wp2
 go_ret
 exact ⟨by first | rfl | (simp; done) | (simp [*]; done), by repeat (first | exact Drawn0.refl _ | apply Drawn0.step)⟩

/-! ### r05_Neg: function 68 -/
def r05_Neg.f (a0 : Nat) : Option (Bool) := some ((Go.bits .and .u64 (a0 : Int) 9223372036854775808) != 0)
set_option maxHeartbeats 3000000 in
set_option maxRecDepth 100000 in
theorem r05_Neg.calls (a0 : Nat) (r : Bool) (w : World) (h : r05_Neg.f a0 = some r) :
  Calls Try.prog 68 #[.float .f64 a0] w fun e w' => e = .returned (.bool r) ∧ Drawn0 w w' := by
 have H : (some ((Go.bits .and .u64 (a0 : Int) 9223372036854775808) != 0)) = some r := h
 clear h
 obtain rfl := Option.some.inj H
 go_enter Try.func68, Try.ntmps68
 go_wp2
 go_ret
 exact ⟨by first | rfl | (simp; done) | (simp [*]; done), by repeat (first | exact Drawn0.refl _ | apply Drawn0.step)⟩

/-! ### r05_signed: function 69 -/
def r05_signed.f (a0 : Int) (a1 : Bool) : Option (Nat) := if a1 = true then (some ((Go.bits .or .u64 a0 9223372036854775808 : Int).toNat)) else (some ((a0 : Int).toNat))
set_option maxHeartbeats 3000000 in
set_option maxRecDepth 100000 in
theorem r05_signed.calls (a0 : Int) (a1 : Bool) (r : Nat) (w : World) (h : r05_signed.f a0 a1 = some r) :
  Calls Try.prog 69 #[.int .u64 a0, .bool a1] w fun e w' => e = .returned (.float .f64 r) ∧ Drawn0 w w' := by
 have H : (if a1 = true then (some ((Go.bits .or .u64 a0 9223372036854775808 : Int).toNat)) else (some ((a0 : Int).toNat))) = some r := h
 clear h
 by_cases c3 : a1 = true
 ·subst c3
  have H1 : (some ((Go.bits .or .u64 a0 9223372036854775808 : Int).toNat)) = some r := by rw [if_pos rfl] at H; exact H
  clear H
  have H := H1
  clear H1
  obtain rfl := Option.some.inj H
  go_enter Try.func69, Try.ntmps69
  go_wp2
  go_ret
  exact ⟨by first | rfl | (simp; done) | (simp [*]; done), by repeat (first | exact Drawn0.refl _ | apply Drawn0.step)⟩
 ·replace c3 := Bool.eq_false_iff.mpr c3
  subst c3
  have H1 : (some ((a0 : Int).toNat)) = some r := by rw [if_neg (show ¬ (false = true) by decide)] at H; exact H
  clear H
  have H := H1
  clear H1
  obtain rfl := Option.some.inj H
  go_enter Try.func69, Try.ntmps69
  go_wp2
  go_ret
  exact ⟨by first | rfl | (simp; done) | (simp [*]; done), by repeat (first | exact Drawn0.refl _ | apply Drawn0.step)⟩

/-! ### r02_Len: function 55 -/
def r02_Len.l0 : Nat → Int → Int → Option (Int)
 | 0, _, _ => none
 | k + 1, x4, x5 => if x5 > 0 then (r02_Len.l0 k (wrap64 (x4 + 1)) ((Int.tdiv x5 2) % 4294967296)) else (some x4)
def r02_Len.f (k : Nat) (l0 : List Int) : Option (Int) := (r02_size.f k l0).bind fun t448 => (if t448 = 0 then (some 0) else (if 0 ≤ (wrap64 (t448 - 1)) then (if (wrap64 (t448 - 1)) < (l0.length : Int) then (r02_Len.l0 k (wrap64 (32 * (wrap64 (t448 - 1)))) (rd l0 (wrap64 (t448 - 1)))) else (none)) else (none)))
theorem r02_Len.mono_l : ∀ k, (∀ y0 y1, LeO (r02_Len.l0 k y0 y1) (r02_Len.l0 (k + 1) y0 y1))
 | 0 => fun _ _ r h => by simp [r02_Len.l0] at h
 | k + 1 => by
  have ih0 := r02_Len.mono_l k
  ·intro y0 y1
   unfold r02_Len.l0
   repeat' first
   | (with_reducible exact ih0 _ _)
   | (with_reducible exact r02_size.mono _ _)
   | (with_reducible exact LeO.refl _)
   | (with_reducible exact LeO.none _)
   | (with_reducible refine LeO.ite ?_ ?_)
   | (with_reducible refine LeO.bind ?_ (fun _ => ?_))
   | exact ih0 _ _
   | exact r02_size.mono _ _
   | exact LeO.none _
   | refine LeO.ite ?_ ?_
   | refine LeO.bind ?_ (fun _ => ?_)
theorem r02_Len.mono : ∀ a0 k, LeO (r02_Len.f k a0) (r02_Len.f (k + 1) a0) := by
 intro a0 k
 have ih0 := r02_Len.mono_l k
 unfold r02_Len.f
 repeat' first
   | (with_reducible exact ih0 _ _)
   | (with_reducible exact r02_size.mono _ _)
   | (with_reducible exact LeO.refl _)
   | (with_reducible exact LeO.none _)
   | (with_reducible refine LeO.ite ?_ ?_)
   | (with_reducible refine LeO.bind ?_ (fun _ => ?_))
   | exact ih0 _ _
   | exact r02_size.mono _ _
   | exact LeO.none _
   | refine LeO.ite ?_ ?_
   | refine LeO.bind ?_ (fun _ => ?_)
set_option maxHeartbeats 3000000 in
set_option maxRecDepth 100000 in
theorem r02_Len.calls (k : Nat) (A0 : Option Addr) (c0 : Nat) (l0 : List Int) (r : Int) (w : World) (hr0 : Kd.C (Kd.int .u32) w A0 l0.length l0) (hc0 : l0.length ≤ c0) (h : r02_Len.f k l0 = some r) :
  Calls Try.prog 55 #[.slice A0 l0.length c0] w fun e w' => e = .returned (.int .i64 r) ∧ Drawn0 w w' := by
 have HR0 := Aside0.mk hr0
 have HC0 := Aside0.mk hc0
 clear hr0 hc0
 have H : ((r02_size.f k l0).bind fun t448 => (if t448 = 0 then (some 0) else (if 0 ≤ (wrap64 (t448 - 1)) then (if (wrap64 (t448 - 1)) < (l0.length : Int) then (r02_Len.l0 k (wrap64 (32 * (wrap64 (t448 - 1)))) (rd l0 (wrap64 (t448 - 1)))) else (none)) else (none)))) = some r := h
 clear h
 obtain ⟨t448, A2, H⟩ := ob_ H
 try dsimp only at H
 by_cases c3 : t448 = 0
 ·rw [if_pos c3] at H
  have c3b0 : (t448 == 0) = true := beq_iff_eq.mpr c3
  have c3b1 : (t448 != 0) = false := bne_eq_false_iff_eq.mpr c3
  clear c3
  obtain rfl := Option.some.inj H
  go_enter Try.func55, Try.ntmps55
  go_wp2_with (first | ((with_reducible refine gate_callee (f := 75) rfl ?_); refine goesM (some 7) Try.func75 #[.slice A0 l0.length c0] ?_; (with_reducible refine (r02_size.calls k _ _ l0 t448 _ ?side1 ?side2 A2.out).mono ?_); (case side1 => repeat (first | exact HR0.out | (with_reducible first | apply cA | apply cN | apply cD))); (case side2 => exact HC0.out); rintro e w' ⟨rfl, ⟨nd, rfl⟩⟩; refine ⟨_, rfl, ?_⟩))
  go_ret
  exact ⟨by first | rfl | (simp; done) | (simp [*]; done), by repeat (first | exact Drawn0.refl _ | apply Drawn0.step)⟩
 ·rw [if_neg c3] at H
  have c3b0 : (t448 == 0) = false := beq_eq_false_iff_ne.mpr c3
  have c3b1 : (t448 != 0) = true := bne_iff_ne.mpr c3
  obtain ⟨ji4, hji4⟩ : ∃ j_ : Int, (wrap64 (t448 - 1)) = j_ := ⟨_, rfl⟩
  replace H : (if 0 ≤ (ji4) then (if (ji4) < (l0.length : Int) then (r02_Len.l0 k (wrap64 (32 * (ji4))) (rd l0 (ji4))) else (none)) else (none)) = some r := by first | (rw [hji4] at H; exact H) | (simp only [hji4] at H ⊢; exact H)
  (try rw [hji4] at A2)
  have hji4w : (IntKind.i64.wrap (t448 - 1)) = ji4 := (i64_w _).trans hji4
  by_cases c5 : 0 ≤ (ji4)
  ·rw [if_pos c5] at H
   have c5b0 : decide (0 ≤ (ji4)) = true := decide_eq_true c5
   clear c5
   by_cases c6 : (ji4) < (l0.length : Int)
   ·rw [if_pos c6] at H
    have c6b0 : decide ((ji4) < (l0.length : Int)) = true := decide_eq_true c6
    clear c6
    have H' := Aside0.mk H
    clear H
    go_enter Try.func55, Try.ntmps55
    go_wp2_with (first | ((with_reducible refine gate_callee (f := 75) rfl ?_); refine goesM (some 7) Try.func75 #[.slice A0 l0.length c0] ?_; (with_reducible refine (r02_size.calls k _ _ l0 t448 _ ?side1 ?side2 A2.out).mono ?_); (case side1 => repeat (first | exact HR0.out | (with_reducible first | apply cA | apply cN | apply cD))); (case side2 => exact HC0.out); rintro e w' ⟨rfl, ⟨nd, rfl⟩⟩; refine ⟨_, rfl, ?_⟩; have p449 : 0 ≤ ((ji4) : Int) := of_decide_eq_true (by first | (with_reducible assumption) | assumption); have q449 : (ji4) < (l0.length : Int) := of_decide_eq_true (by first | (with_reducible assumption) | assumption); obtain ⟨ad449, e449, hx449_0⟩ := Kd.at_int HR0.out (ji4) p449 q449; cases e449; replace p449 := eq_true p449; replace q449 := eq_true q449))
    go_loopg [4, 5] k (fun kq v4 v5 w' => ∃ (x4_1 : Int) (x5_1 : Int), v4 = .int .i64 x4_1 ∧ v5 = .int .u32 x5_1 ∧ Aside0 (r02_Len.l0 kq x4_1 x5_1 = some r) ∧ Aside0 (kq ≤ k) ∧ Drawn0 w w')
    case atStart => exact ⟨(wrap64 (32 * (ji4))), (rd l0 (ji4)), (by first | rfl | (simp; done) | (simp only [← hji4] <;> (first | rfl | simp)) | (simp [*]; done)), (by first | rfl | (simp; done) | (simp only [← hji4] <;> (first | rfl | simp)) | (simp [*]; done)), H', ⟨Nat.le_refl _⟩, by repeat (first | exact Drawn0.refl _ | apply Drawn0.step)⟩
    case round =>
     clear H'
     try clear p2
     try clear c3
     try clear c3b0
     try clear c3b1
     try clear p4
     try clear q4
     try clear hx4
     try clear c5
     try clear c5b0
     try clear c6
     try clear c6b0
     try clear p6
     try clear hx449_0
     try clear p449
     try clear q449
     obtain ⟨x4_1, x5_1, rfl, rfl, HA, HK1, ⟨m1, rfl⟩⟩ := hrel
     cases gk with
     | zero => exact absurd HA.out (by simp [r02_Len.l0])
     | succ k1 =>
      have H := HA.out
      clear HA
      simp only [r02_Len.l0] at H
      by_cases c7 : x5_1 > 0
      ·rw [if_pos c7] at H
       have c7b0 : decide (0 < x5_1) = true := decide_eq_true c7
       clear c7
       have H' := Aside0.mk H
       clear H
       go_wp2
       go_roundg k1
       case measure => have := HK1.out; omega
       case rel => exact ⟨(wrap64 (x4_1 + 1)), ((Int.tdiv x5_1 2) % 4294967296), (by first | rfl | (simp; done) | (simp [*]; done)), (by first | rfl | (simp; done) | (simp [*]; done)), H', ⟨by have := HK1.out; omega⟩, by repeat (first | exact Drawn0.refl _ | apply Drawn0.step)⟩
      ·rw [if_neg c7] at H
       have c7b0 : decide (0 < x5_1) = false := decide_eq_false c7
       clear c7
       obtain rfl := Option.some.inj H
       go_wp2
       go_ret
       exact ⟨by first | rfl | (simp; done) | (simp only [← hji4] <;> (first | rfl | simp)) | (simp [*]; done), by repeat (first | exact Drawn0.refl _ | apply Drawn0.step)⟩
   ·rw [if_neg c6] at H
    exact absurd H (by simp)
  ·rw [if_neg c5] at H
   exact absurd H (by simp)

end Go.Proofs.Ytdemanikmaafeaa.Pr
-- written by this session's own program (wip/fprint.py), which widens the kit's print by floats
namespace Go.Proofs.Ytdemanikmaafeaa.Pr
open Go.RowKit Go.Proofs.YtdemanikmaafeaaW.PrintWords Go.Proofs.YtdemanikmaafeaaW.PrintLast Go.Proofs.YtdemanikmaafeaaW.PrintMore
attribute [local go_sem] max2_int min2_int max_two min_two max_three min_three max_four min_four   -- for this text's walks alone
set_option linter.unusedVariables false
set_option linter.unusedSimpArgs false

/-! ### r03_Against: function 74 -/
mutual
def r03_Against.j0 : Nat → List Int → Int → List Int → Int → Int → Int → Bool → Option (Int)
 | 0, _, _, _, _, _, _, _ => none
 | k + 1, x0, x1, x2, x3, x9, x10, x23 => if x23 = true then ((r02_Cmp.f k x0 x2).bind fun t452 => (some t452)) else (if x1 < x3 then ((r03_Against.f k x2 x3 x0 x1).bind fun t453 => (some (wrap64 (-t453)))) else (if (IntKind.u64.wrap ((IntKind.u64.wrap (x1)) - (IntKind.u64.wrap (x3)))) > 1099511627776 then (r03_Against.j1 k x0 x2 x9 x10 (IntKind.u64.wrap ((IntKind.u64.wrap (x1)) - (IntKind.u64.wrap (x3)))) true) else (r03_Against.j1 k x0 x2 x9 x10 (IntKind.u64.wrap ((IntKind.u64.wrap (x1)) - (IntKind.u64.wrap (x3)))) (decide ((IntKind.u64.wrap (x9 + (IntKind.u64.wrap ((IntKind.u64.wrap (x1)) - (IntKind.u64.wrap (x3)))))) > x10)))))
def r03_Against.j1 : Nat → List Int → List Int → Int → Int → Int → Bool → Option (Int)
 | 0, _, _, _, _, _, _ => none
 | k + 1, x0, x2, x9, x10, x11, x49 => if x49 = true then (some 1) else (if (IntKind.u64.wrap (x9 + x11)) < x10 then (some (-1)) else ((r02_Moved.f k x0 (wrap64 (x11))).bind fun t454 => ((r02_Cmp.f k t454 x2).bind fun t457 => (some t457))))
def r03_Against.f : Nat → List Int → Int → List Int → Int → Option (Int)
 | 0, _, _, _, _ => none
 | k + 1, l0, a1, l2, a3 => (r02_Len.f k l0).bind fun t450 => ((r02_Len.f k l2).bind fun t451 => (if (IntKind.u64.wrap (t450)) = 0 then (r03_Against.j0 k l0 a1 l2 a3 (IntKind.u64.wrap (t450)) (IntKind.u64.wrap (t451)) true) else (r03_Against.j0 k l0 a1 l2 a3 (IntKind.u64.wrap (t450)) (IntKind.u64.wrap (t451)) ((IntKind.u64.wrap (t451)) == 0))))
end
theorem r03_Against.mono_l : ∀ k, (∀ y0 y1 y2 y3, LeO (r03_Against.f k y0 y1 y2 y3) (r03_Against.f (k + 1) y0 y1 y2 y3)) ∧ (∀ y0 y1 y2 y3 y4 y5 y6, LeO (r03_Against.j0 k y0 y1 y2 y3 y4 y5 y6) (r03_Against.j0 (k + 1) y0 y1 y2 y3 y4 y5 y6)) ∧ (∀ y0 y1 y2 y3 y4 y5, LeO (r03_Against.j1 k y0 y1 y2 y3 y4 y5) (r03_Against.j1 (k + 1) y0 y1 y2 y3 y4 y5))
 | 0 => ⟨fun _ _ _ _ r h => by simp [r03_Against.f] at h, fun _ _ _ _ _ _ _ r h => by simp [r03_Against.j0] at h, fun _ _ _ _ _ _ r h => by simp [r03_Against.j1] at h⟩
 | k + 1 => by
  obtain ⟨ih0, ih1, ih2⟩ := r03_Against.mono_l k
  refine ⟨?_, ?_, ?_⟩
  ·intro y0 y1 y2 y3
   unfold r03_Against.f
   repeat' first
   | (with_reducible exact ih0 _ _ _ _)
   | (with_reducible exact ih1 _ _ _ _ _ _ _)
   | (with_reducible exact ih2 _ _ _ _ _ _)
   | (with_reducible exact r02_Cmp.mono _ _ _)
   | (with_reducible exact r02_Len.mono _ _)
   | (with_reducible exact r02_Moved.mono _ _ _)
   | (with_reducible exact LeO.refl _)
   | (with_reducible exact LeO.none _)
   | (with_reducible refine LeO.ite ?_ ?_)
   | (with_reducible refine LeO.bind ?_ (fun _ => ?_))
   | exact ih0 _ _ _ _
   | exact ih1 _ _ _ _ _ _ _
   | exact ih2 _ _ _ _ _ _
   | exact r02_Cmp.mono _ _ _
   | exact r02_Len.mono _ _
   | exact r02_Moved.mono _ _ _
   | exact LeO.none _
   | refine LeO.ite ?_ ?_
   | refine LeO.bind ?_ (fun _ => ?_)
  ·intro y0 y1 y2 y3 y4 y5 y6
   unfold r03_Against.j0
   repeat' first
   | (with_reducible exact ih0 _ _ _ _)
   | (with_reducible exact ih1 _ _ _ _ _ _ _)
   | (with_reducible exact ih2 _ _ _ _ _ _)
   | (with_reducible exact r02_Cmp.mono _ _ _)
   | (with_reducible exact r02_Len.mono _ _)
   | (with_reducible exact r02_Moved.mono _ _ _)
   | (with_reducible exact LeO.refl _)
   | (with_reducible exact LeO.none _)
   | (with_reducible refine LeO.ite ?_ ?_)
   | (with_reducible refine LeO.bind ?_ (fun _ => ?_))
   | exact ih0 _ _ _ _
   | exact ih1 _ _ _ _ _ _ _
   | exact ih2 _ _ _ _ _ _
   | exact r02_Cmp.mono _ _ _
   | exact r02_Len.mono _ _
   | exact r02_Moved.mono _ _ _
   | exact LeO.none _
   | refine LeO.ite ?_ ?_
   | refine LeO.bind ?_ (fun _ => ?_)
  ·intro y0 y1 y2 y3 y4 y5
   unfold r03_Against.j1
   repeat' first
   | (with_reducible exact ih0 _ _ _ _)
   | (with_reducible exact ih1 _ _ _ _ _ _ _)
   | (with_reducible exact ih2 _ _ _ _ _ _)
   | (with_reducible exact r02_Cmp.mono _ _ _)
   | (with_reducible exact r02_Len.mono _ _)
   | (with_reducible exact r02_Moved.mono _ _ _)
   | (with_reducible exact LeO.refl _)
   | (with_reducible exact LeO.none _)
   | (with_reducible refine LeO.ite ?_ ?_)
   | (with_reducible refine LeO.bind ?_ (fun _ => ?_))
   | exact ih0 _ _ _ _
   | exact ih1 _ _ _ _ _ _ _
   | exact ih2 _ _ _ _ _ _
   | exact r02_Cmp.mono _ _ _
   | exact r02_Len.mono _ _
   | exact r02_Moved.mono _ _ _
   | exact LeO.none _
   | refine LeO.ite ?_ ?_
   | refine LeO.bind ?_ (fun _ => ?_)
theorem r03_Against.mono : ∀ a0 a1 a2 a3 k, LeO (r03_Against.f k a0 a1 a2 a3) (r03_Against.f (k + 1) a0 a1 a2 a3) := by
 intro a0 a1 a2 a3 k
 obtain ⟨ih0, ih1, ih2⟩ := r03_Against.mono_l k
 exact ih0 a0 a1 a2 a3
set_option maxHeartbeats 3000000 in
set_option maxRecDepth 100000 in
theorem r03_Against.calls (k : Nat) : ∀ (A0 : Option Addr) (c0 : Nat) (l0 : List Int) (a1 : Int) (A2 : Option Addr) (c2 : Nat) (l2 : List Int) (a3 : Int) (r : Int) (w : World) (hr0 : Kd.C (Kd.int .u32) w A0 l0.length l0) (hc0 : l0.length ≤ c0) (hr2 : Kd.C (Kd.int .u32) w A2 l2.length l2) (hc2 : l2.length ≤ c2) (h : r03_Against.f k l0 a1 l2 a3 = some r),
  Calls Try.prog 74 #[.slice A0 l0.length c0, .int .i64 a1, .slice A2 l2.length c2, .int .i64 a3] w fun e w' => e = .returned (.int .i64 r) ∧ Below w.heap.size w w' := by
 induction k using Nat.strongRecOn with
 | _ k ih =>
 intro A0 c0 l0 a1 A2 c2 l2 a3 r w hr0 hc0 hr2 hc2 h
 cases k with
 | zero => exact absurd h (by simp [r03_Against.f])
 | succ k =>
 simp only [r03_Against.f] at h
 have HR0 := Aside0.mk hr0
 have HC0 := Aside0.mk hc0
 clear hr0 hc0
 have HR2 := Aside0.mk hr2
 have HC2 := Aside0.mk hc2
 clear hr2 hc2
 have HB := Aside0.mk (Below.refl w.heap.size w)
 have H : ((r02_Len.f k l0).bind fun t450 => ((r02_Len.f k l2).bind fun t451 => (if (IntKind.u64.wrap (t450)) = 0 then (r03_Against.j0 k l0 a1 l2 a3 (IntKind.u64.wrap (t450)) (IntKind.u64.wrap (t451)) true) else (r03_Against.j0 k l0 a1 l2 a3 (IntKind.u64.wrap (t450)) (IntKind.u64.wrap (t451)) ((IntKind.u64.wrap (t451)) == 0))))) = some r := h
 clear h
 obtain ⟨t450, A5, H⟩ := ob_ H
 try dsimp only at H
 obtain ⟨t451, A6, H⟩ := ob_ H
 try dsimp only at H
 have HC7 := Aside0.mk H
 clear H
 go_enter Try.func74, Try.ntmps74
 go_upto_region 3 with (first | ((with_reducible refine gate_callee (f := 55) rfl ?_); refine goesM (some 13) Try.func55 #[.slice A0 l0.length c0] ?_; (with_reducible refine (r02_Len.calls k _ _ l0 t450 _ ?side1 ?side2 A5.out).mono ?_); (case side1 => repeat (first | exact HR0.out | (with_reducible first | apply cA | apply cN | apply cD))); (case side2 => exact HC0.out); rintro e w' ⟨rfl, ⟨nd, rfl⟩⟩; refine ⟨_, rfl, ?_⟩) | ((with_reducible refine gate_callee (f := 55) rfl ?_); refine goesM (some 16) Try.func55 #[.slice A2 l2.length c2] ?_; (with_reducible refine (r02_Len.calls k _ _ l2 t451 _ ?side1 ?side2 A6.out).mono ?_); (case side1 => repeat (first | exact HR2.out | (with_reducible first | apply cA | apply cN | apply cD))); (case side2 => exact HC2.out); rintro e w' ⟨rfl, ⟨nd, rfl⟩⟩; refine ⟨_, rfl, ?_⟩))
 (try simp only [Act.put, List.setIfInBounds_toArray, List.set_cons_zero, List.set_cons_succ])
 go_cut [23] (fun v23 wc => ∃ (kq : Nat) (x23_6 : Bool), v23 = .bool x23_6 ∧ Aside0 (r03_Against.j0 kq l0 a1 l2 a3 (IntKind.u64.wrap (t450)) (IntKind.u64.wrap (t451)) x23_6 = some r) ∧ Aside0 (kq ≤ k) ∧ Aside0 (Below w.heap.size w wc))
 case first =>
  have H := HC7.out
  clear HC7
  by_cases c8 : (IntKind.u64.wrap (t450)) = 0
  ·rw [if_pos c8] at H
   have c8b0 : ((IntKind.u64.wrap (t450)) == 0) = true := beq_iff_eq.mpr c8
   have c8b1 : ((IntKind.u64.wrap (t450)) != 0) = false := bne_eq_false_iff_eq.mpr c8
   clear c8
   (first | rw [c8b0] | (simp only [i64_w, i32_w]; rw [c8b0]) | skip)
   have H' := Aside0.mk H
   clear H
   go_wp2
   go_meet
   case rel => exact ⟨_, (true), (by first | rfl | (simp; done) | (simp [*]; done)), H', ⟨by first | omega | exact Nat.le_refl _⟩, ⟨bl_ HB⟩⟩
  ·rw [if_neg c8] at H
   have c8b0 : ((IntKind.u64.wrap (t450)) == 0) = false := beq_eq_false_iff_ne.mpr c8
   have c8b1 : ((IntKind.u64.wrap (t450)) != 0) = true := bne_iff_ne.mpr c8
   (first | rw [c8b0] | (simp only [i64_w, i32_w]; rw [c8b0]) | skip)
   have H' := Aside0.mk H
   clear H
   go_wp2
   go_meet
   case rel => exact ⟨_, (((IntKind.u64.wrap (t451)) == 0)), (by first | rfl | (simp; done) | (simp [*]; done)), H', ⟨by first | omega | exact Nat.le_refl _⟩, ⟨bl_ HB⟩⟩
 case rest =>
  clear HC7
  try clear c2
  try clear p2
  try clear c5
  try clear c7
  try clear c8
  try clear c8b0
  try clear c8b1
  obtain ⟨kq, x23_6, rfl, HA, HJ6, HB⟩ := hcut
  cases kq with
  | zero => exact absurd HA.out (by simp [r03_Against.j0])
  | succ kj6 =>
   have H := HA.out
   clear HA
   simp only [r03_Against.j0] at H
   by_cases c9 : x23_6 = true
   ·subst c9
    have H1 : ((r02_Cmp.f kj6 l0 l2).bind fun t452 => (some t452)) = some r := by rw [if_pos rfl] at H; exact H
    clear H
    have H := H1
    clear H1
    obtain ⟨t452, A10, H⟩ := ob_ H
    try dsimp only at H
    obtain rfl := Option.some.inj H
    go_wp2_with (first | ((with_reducible refine gate_callee (f := 61) rfl ?_); refine goesM (some 26) Try.func61 #[.slice A0 l0.length c0, .slice A2 l2.length c2] ?_; (with_reducible refine (r02_Cmp.calls kj6 _ _ l0 _ _ l2 t452 _ ?side1 ?side2 ?side3 ?side4 A10.out).mono ?_); (case side1 => repeat (first | exact (Kd.C_below HR0.out HB.out) | (with_reducible first | apply cA | apply cN | apply cD))); (case side2 => exact HC0.out); (case side3 => repeat (first | exact (Kd.C_below HR2.out HB.out) | (with_reducible first | apply cA | apply cN | apply cD))); (case side4 => exact HC2.out); rintro e w' ⟨rfl, ⟨nd, rfl⟩⟩; refine ⟨_, rfl, ?_⟩))
    go_ret
    exact ⟨by first | rfl | (simp [errW_none, errW_some] <;> rfl) | (simp [*, errW_none, errW_some] <;> rfl), bl_ HB⟩
   ·replace c9 := Bool.eq_false_iff.mpr c9
    subst c9
    have H1 : (if a1 < a3 then ((r03_Against.f kj6 l2 a3 l0 a1).bind fun t453 => (some (wrap64 (-t453)))) else (if (IntKind.u64.wrap ((IntKind.u64.wrap (a1)) - (IntKind.u64.wrap (a3)))) > 1099511627776 then (r03_Against.j1 kj6 l0 l2 (IntKind.u64.wrap (t450)) (IntKind.u64.wrap (t451)) (IntKind.u64.wrap ((IntKind.u64.wrap (a1)) - (IntKind.u64.wrap (a3)))) true) else (r03_Against.j1 kj6 l0 l2 (IntKind.u64.wrap (t450)) (IntKind.u64.wrap (t451)) (IntKind.u64.wrap ((IntKind.u64.wrap (a1)) - (IntKind.u64.wrap (a3)))) (decide ((IntKind.u64.wrap ((IntKind.u64.wrap (t450)) + (IntKind.u64.wrap ((IntKind.u64.wrap (a1)) - (IntKind.u64.wrap (a3)))))) > (IntKind.u64.wrap (t451))))))) = some r := by rw [if_neg (show ¬ (false = true) by decide)] at H; exact H
    clear H
    have H := H1
    clear H1
    by_cases c11 : a1 < a3
    ·rw [if_pos c11] at H
     have c11b0 : decide (a1 < a3) = true := decide_eq_true c11
     clear c11
     obtain ⟨t453, A12, H⟩ := ob_ H
     try dsimp only at H
     obtain rfl := Option.some.inj H
     go_wp2_with (first | ((with_reducible refine gate_callee (f := 74) rfl ?_); refine goesM (some 34) Try.func74 #[.slice A2 l2.length c2, .int .i64 a3, .slice A0 l0.length c0, .int .i64 a1] ?_; (with_reducible refine (ih kj6 (by have := HJ6.out; omega) _ _ l2 a3 _ _ l0 a1 t453 _ ?side1 ?side2 ?side3 ?side4 A12.out).mono ?_); (case side1 => repeat (first | exact (Kd.C_below HR2.out HB.out) | (with_reducible first | apply cA | apply cN | apply cD))); (case side2 => exact HC2.out); (case side3 => repeat (first | exact (Kd.C_below HR0.out HB.out) | (with_reducible first | apply cA | apply cN | apply cD))); (case side4 => exact HC0.out); rintro e w13 ⟨rfl, hb⟩; refine ⟨_, rfl, ?_⟩; have n0_ := bs_ HB hb; clear HB; have HB := n0_; clear n0_; (try clear hb); (try clear hb2); (try clear hk); (try clear hi)))
     go_ret
     exact ⟨by first | rfl | (simp [errW_none, errW_some] <;> rfl) | (simp [*, errW_none, errW_some] <;> rfl), bl_ HB⟩
    ·rw [if_neg c11] at H
     have c11b0 : decide (a1 < a3) = false := decide_eq_false c11
     clear c11
     have HC14 := Aside0.mk H
     clear H
     go_upto_region 8 with (fail)
     obtain ⟨bz15, hbz15⟩ : ∃ b_ : Bool, decide (a1 < a3) = b_ := ⟨_, rfl⟩
     (try rw [hbz15])
     go_cut [49] (fun v49 wc => ∃ (kq : Nat) (x49_13 : Bool), v49 = .bool x49_13 ∧ Aside0 (r03_Against.j1 kq l0 l2 (IntKind.u64.wrap (t450)) (IntKind.u64.wrap (t451)) (IntKind.u64.wrap ((IntKind.u64.wrap (a1)) - (IntKind.u64.wrap (a3)))) x49_13 = some r) ∧ Aside0 (kq ≤ kj6) ∧ Aside0 (Below w.heap.size w wc))
     case first =>
      have H := HC14.out
      clear HC14
      by_cases c16 : (IntKind.u64.wrap ((IntKind.u64.wrap (a1)) - (IntKind.u64.wrap (a3)))) > 1099511627776
      ·rw [if_pos c16] at H
       have c16b0 : decide (1099511627776 < (IntKind.u64.wrap ((IntKind.u64.wrap (a1)) - (IntKind.u64.wrap (a3))))) = true := decide_eq_true c16
       clear c16
       (first | rw [c16b0] | (simp only [i64_w, i32_w]; rw [c16b0]) | skip)
       have H' := Aside0.mk H
       clear H
       go_wp2
       go_meet
       case rel => exact ⟨_, (true), (by first | rfl | (simp; done) | (simp [*]; done)), H', ⟨by have := HJ6.out; first | omega | exact Nat.le_refl _⟩, ⟨bl_ HB⟩⟩
      ·rw [if_neg c16] at H
       have c16b0 : decide (1099511627776 < (IntKind.u64.wrap ((IntKind.u64.wrap (a1)) - (IntKind.u64.wrap (a3))))) = false := decide_eq_false c16
       clear c16
       (first | rw [c16b0] | (simp only [i64_w, i32_w]; rw [c16b0]) | skip)
       have H' := Aside0.mk H
       clear H
       go_wp2
       go_meet
       case rel => exact ⟨_, (decide ((IntKind.u64.wrap ((IntKind.u64.wrap (t450)) + (IntKind.u64.wrap ((IntKind.u64.wrap (a1)) - (IntKind.u64.wrap (a3)))))) > (IntKind.u64.wrap (t451)))), (by first | rfl | (simp; done) | (simp [*]; done)), H', ⟨by have := HJ6.out; first | omega | exact Nat.le_refl _⟩, ⟨bl_ HB⟩⟩
     case rest =>
      clear HC14
      try clear c1
      try clear c2
      try clear p2
      try clear c5
      try clear c6
      try clear p6
      try clear c7
      try clear c8
      try clear c8b0
      try clear c8b1
      try clear c9
      try clear c11
      try clear c11b0
      try clear c16
      try clear c16b0
      try clear p2
      obtain ⟨kq, x49_13, rfl, HA, HJ13, HB⟩ := hcut
      cases kq with
      | zero => exact absurd HA.out (by simp [r03_Against.j1])
      | succ kj13 =>
       have H := HA.out
       clear HA
       simp only [r03_Against.j1] at H
       by_cases c17 : x49_13 = true
       ·subst c17
        have H1 : (some 1) = some r := by rw [if_pos rfl] at H; exact H
        clear H
        have H := H1
        clear H1
        obtain rfl := Option.some.inj H
        go_wp2
        go_ret
        exact ⟨by first | rfl | (simp [errW_none, errW_some] <;> rfl) | (simp [*, errW_none, errW_some] <;> rfl), bl_ HB⟩
       ·replace c17 := Bool.eq_false_iff.mpr c17
        subst c17
        have H1 : (if (IntKind.u64.wrap ((IntKind.u64.wrap (t450)) + (IntKind.u64.wrap ((IntKind.u64.wrap (a1)) - (IntKind.u64.wrap (a3)))))) < (IntKind.u64.wrap (t451)) then (some (-1)) else ((r02_Moved.f kj13 l0 (wrap64 ((IntKind.u64.wrap ((IntKind.u64.wrap (a1)) - (IntKind.u64.wrap (a3))))))).bind fun t454 => ((r02_Cmp.f kj13 t454 l2).bind fun t457 => (some t457)))) = some r := by rw [if_neg (show ¬ (false = true) by decide)] at H; exact H
        clear H
        have H := H1
        clear H1
        by_cases c18 : (IntKind.u64.wrap ((IntKind.u64.wrap (t450)) + (IntKind.u64.wrap ((IntKind.u64.wrap (a1)) - (IntKind.u64.wrap (a3)))))) < (IntKind.u64.wrap (t451))
        ·rw [if_pos c18] at H
         have c18b0 : decide ((IntKind.u64.wrap ((IntKind.u64.wrap (t450)) + (IntKind.u64.wrap ((IntKind.u64.wrap (a1)) - (IntKind.u64.wrap (a3)))))) < (IntKind.u64.wrap (t451))) = true := decide_eq_true c18
         clear c18
         obtain rfl := Option.some.inj H
         go_wp2
         go_ret
         exact ⟨by first | rfl | (simp [errW_none, errW_some] <;> rfl) | (simp [*, errW_none, errW_some] <;> rfl), bl_ HB⟩
        ·rw [if_neg c18] at H
         have c18b0 : decide ((IntKind.u64.wrap ((IntKind.u64.wrap (t450)) + (IntKind.u64.wrap ((IntKind.u64.wrap (a1)) - (IntKind.u64.wrap (a3)))))) < (IntKind.u64.wrap (t451))) = false := decide_eq_false c18
         clear c18
         obtain ⟨t454, A19, H⟩ := ob_ H
         try dsimp only at H
         obtain ⟨t457, A20, H⟩ := ob_ H
         try dsimp only at H
         obtain rfl := Option.some.inj H
         go_wp2_with (first | ((with_reducible refine gate_callee (f := 58) rfl ?_); refine goesM (some 58) Try.func58 #[.slice A0 l0.length c0, .int .i64 (wrap64 ((IntKind.u64.wrap ((IntKind.u64.wrap (a1)) - (IntKind.u64.wrap (a3))))))] ?_; (with_reducible refine (r02_Moved.calls kj13 _ _ l0 (wrap64 ((IntKind.u64.wrap ((IntKind.u64.wrap (a1)) - (IntKind.u64.wrap (a3)))))) t454 _ ?side1 ?side2 A19.out).mono ?_); (case side1 => repeat (first | exact (Kd.C_below HR0.out HB.out) | (with_reducible first | apply cA | apply cN | apply cD))); (case side2 => exact HC0.out); rintro e w21 ⟨v455, rfl, ho0, hb⟩; refine ⟨_, rfl, ?_⟩; have n0_ := Aside0.mk (Kd.R_lower ho0 (below_size (bl_ HB))); have n1_ := bs_ HB hb; clear HB; have HO456 := n0_; have HB := n1_; clear n0_ n1_; (try clear hb); (try clear hb2); (try clear hk); (try clear hi); (try clear ho0); obtain ⟨Ao22, co22, eo22⟩ := Kd.R_slice HO456.out; subst eo22) | ((with_reducible refine gate_callee (f := 61) rfl ?_); refine goesM (some 60) Try.func61 #[.slice Ao22 t454.length co22, .slice A2 l2.length c2] ?_; (with_reducible refine (r02_Cmp.calls kj13 _ _ t454 _ _ l2 t457 _ ?side1 ?side2 ?side3 ?side4 A20.out).mono ?_); (case side1 => repeat (first | exact (Kd.R_reads' HO456.out).2.2 | (with_reducible first | apply cA | apply cN | apply cD))); (case side2 => exact (Kd.R_reads' HO456.out).2.1); (case side3 => repeat (first | exact (Kd.C_below HR2.out HB.out) | (with_reducible first | apply cA | apply cN | apply cD))); (case side4 => exact HC2.out); rintro e w' ⟨rfl, ⟨nd, rfl⟩⟩; refine ⟨_, rfl, ?_⟩))
         go_ret
         exact ⟨by first | rfl | (simp [errW_none, errW_some] <;> rfl) | (simp [*, errW_none, errW_some] <;> rfl), bl_ HB⟩

end Go.Proofs.Ytdemanikmaafeaa.Pr
-- written by this session's own program (wip/fprint.py), which widens the kit's print by floats
namespace Go.Proofs.Ytdemanikmaafeaa.Pr
open Go.RowKit Go.Proofs.YtdemanikmaafeaaW.PrintWords Go.Proofs.YtdemanikmaafeaaW.PrintLast Go.Proofs.YtdemanikmaafeaaW.PrintMore
attribute [local go_sem] max2_int min2_int max_two min_two max_three min_three max_four min_four   -- for this text's walks alone
set_option linter.unusedVariables false
set_option linter.unusedSimpArgs false

/-! ### l05_finite: function 29 -/
def l05_finite.f (k : Nat) (a0 : Nat) : Option (Bool × List Int × Int × Bool) := (r03_Of.f k a0).bind fun bt710 => (some (bt710.1, bt710.2.1, bt710.2.2.1, (bt710.2.2.2 == 0)))
theorem l05_finite.mono : ∀ a0 k, LeO (l05_finite.f k a0) (l05_finite.f (k + 1) a0) := by
 intro a0 k
 unfold l05_finite.f
 repeat' first
   | (with_reducible exact r03_Of.mono _ _)
   | (with_reducible exact LeO.refl _)
   | (with_reducible exact LeO.none _)
   | (with_reducible refine LeO.ite ?_ ?_)
   | (with_reducible refine LeO.bind ?_ (fun _ => ?_))
   | exact r03_Of.mono _ _
   | exact LeO.none _
   | refine LeO.ite ?_ ?_
   | refine LeO.bind ?_ (fun _ => ?_)
set_option maxHeartbeats 3000000 in
set_option maxRecDepth 100000 in
theorem l05_finite.calls (k : Nat) (a0 : Nat) (r1 : Bool) (r2 : List Int) (r3 : Int) (r4 : Bool) (w : World) (h : l05_finite.f k a0 = some (r1, r2, r3, r4)) :
  Calls Try.prog 29 #[.float .f64 a0] w fun e w' => ∃ v1_ : Value, e = .returned (.tuple #[.agg #[.bool r1, v1_, .int .i64 r3], .bool r4]) ∧ Kd.R (Kd.int .u32) 72 w' w.heap.size (fun _ => True) v1_ r2 ∧ Below w.heap.size w w' := by
 have hu43 := Try.underlying43
 have HB := Aside0.mk (Below.refl w.heap.size w)
 have H : ((r03_Of.f k a0).bind fun bt710 => (some (bt710.1, bt710.2.1, bt710.2.2.1, (bt710.2.2.2 == 0)))) = some (r1, r2, r3, r4) := h
 clear h
 obtain ⟨⟨t710, t711, t714, t715⟩, A2, H⟩ := ob_ H
 try dsimp only at H
 simp only [Option.some.injEq, Prod.mk.injEq] at H
 obtain ⟨rfl, rfl, rfl, rfl⟩ := H
 go_enter Try.func29, Try.ntmps29
 go_wp2_with (first | ((with_reducible refine gate_dst (N := 2) rfl ?_); refine box_event ?hg (N := 2) ?hd (cs := #[.bool false, .slice none 0 0, .int .i64 0]) (t := 43) ?hr ?_; (case hd => rfl); (case hg => rfl); (case hr => first | (go_simp; done) | (go_simp; rfl)); intro gb709 hg w3 hbox hb; have n0_ := bs_ HB hb; have n1_ := Aside0.mk (hbox); have n2_ := ge_ HB hg; have n3_ := ge_ HB hg; clear HB; have HB := n0_; have BK709 := n1_; have GW709 := n2_; have GE709 := n3_; clear n0_ n1_ n2_ n3_; clear hb hbox hg) | ((with_reducible refine gate_callee (f := 50) rfl ?_); refine goesM (some 8) Try.func50 #[.float .f64 a0] ?_; (with_reducible refine (r03_Of.calls k a0 t710 t711 t714 t715 _ A2.out).mono ?_); rintro e w4 ⟨v712, rfl, ho0, hb⟩; refine ⟨_, rfl, ?_⟩; have n0_ := Aside0.mk (Kd.R_lower ho0 (below_size (bl_ HB))); have n1_ := kb_ BK709 hb; have n2_ := bs_ HB hb; clear BK709; clear HB; have HO713 := n0_; have BK709 := n1_; have HB := n2_; clear n0_ n1_ n2_; (try clear hb); (try clear hb2); (try clear hk); (try clear hi); (try clear ho0)) | ((with_reducible refine gate_dst (N := 4) rfl ?_); refine box_event ?hg (N := 4) ?hd (cs := #[.bool false, .slice none 0 0, .int .i64 0]) (t := 43) ?hr ?_; (case hd => rfl); (case hg => rfl); (case hr => first | (go_simp; done) | (go_simp; rfl)); intro gb716 hg w5 hbox hb; have n0_ := Aside0.mk (Kd.R_below (rr_ HO713) hb); have n1_ := kb_ BK709 hb; have n2_ := bs_ HB hb; have n3_ := Aside0.mk (hbox); have n4_ := ge_ HB hg; have n5_ := ge_ HB hg; have n6_ := nlt_ BK709 hg; have n7_ := ngt_ BK709 hg; clear HO713; clear BK709; clear HB; have HO713 := n0_; have BK709 := n1_; have HB := n2_; have BK716 := n3_; have GW716 := n4_; have GE716 := n5_; have NB709_716 := n6_; have NB716_709 := n7_; clear n0_ n1_ n2_ n3_ n4_ n5_ n6_ n7_; clear hb hbox hg; have hnb6 := NB716_709.out; have hnc6 := NB709_716.out; have hcz7_0 : w5.cell? ⟨gb716, 0, none⟩ = some (.bool false) := (blk_cell BK716.out 0).trans rfl; have hcz7_1 : w5.cell? ⟨gb716, 1, none⟩ = some (.slice none 0 0) := (blk_cell BK716.out 1).trans rfl; have hcz7_2 : w5.cell? ⟨gb716, 2, none⟩ = some (.int .i64 0) := (blk_cell BK716.out 2).trans rfl; have hfz7_0 := blk_frozen BK716.out 0; have hfz7_1 := blk_frozen BK716.out 1; have hfz7_2 := blk_frozen BK716.out 2; obtain ⟨Ao8, co8, eo8⟩ := Kd.R_slice HO713.out; subst eo8; have hcz9_0 : w5.cell? ⟨gb709, 0, none⟩ = some (.bool false) := (blk_cell BK709.out 0).trans rfl; have hcz9_1 : w5.cell? ⟨gb709, 1, none⟩ = some (.slice none 0 0) := (blk_cell BK709.out 1).trans rfl; have hcz9_2 : w5.cell? ⟨gb709, 2, none⟩ = some (.int .i64 0) := (blk_cell BK709.out 2).trans rfl; have hfz9_0 := blk_frozen BK709.out 0; have hfz9_1 := blk_frozen BK709.out 1; have hfz9_2 := blk_frozen BK709.out 2))
 refine bodyPost_ret (results_ct rfl _ _ gb709 43 #[.bool t710, .slice Ao8 t711.length co8, .int .i64 t714] (0, 0) _ rfl (by (with_reducible repeat (first | apply bN | apply bD | apply bA)); refine blk_put (cs := #[.bool t710, .slice Ao8 t711.length co8, .int .i64 0]) ?_ 2 _ rfl; (with_reducible repeat (first | apply bN | apply bD | apply bA)); refine blk_put (cs := #[.bool t710, .slice none 0 0, .int .i64 0]) ?_ 1 _ rfl; (with_reducible repeat (first | apply bN | apply bD | apply bA)); refine blk_put (cs := #[.bool false, .slice none 0 0, .int .i64 0]) ?_ 0 _ rfl; (with_reducible repeat (first | apply bN | apply bD | apply bA)); refine blk_far ?_ NB709_716.out _; (with_reducible repeat (first | apply bN | apply bD | apply bA)); refine blk_far ?_ NB709_716.out _; (with_reducible repeat (first | apply bN | apply bD | apply bA)); refine blk_far ?_ NB709_716.out _; exact bk_ BK709) Try.underlying43 rfl (by kernel_rfl)) rfl ?_
 exact ⟨_, by first | rfl | (simp [errW_none, errW_some] <;> rfl) | (simp [*, errW_none, errW_some] <;> rfl), by (with_reducible repeat (first | apply rA | apply rN | apply rD)); exact Kd.R_mono (Kd.R_far (p := ⟨gb709, 2, none⟩) (Kd.R_far (p := ⟨gb709, 1, none⟩) (Kd.R_far (p := ⟨gb709, 0, none⟩) (Kd.R_far (p := ⟨gb716, 2, none⟩) (Kd.R_far (p := ⟨gb716, 1, none⟩) (Kd.R_far (p := ⟨gb716, 0, none⟩) (Kd.R_types (Kd.R_types HO713.out BK716.out (by decide)) BK709.out (by decide)) (fun _ hk => hk.1.2) (.bool t710)) (fun _ hk => hk.1.2) (.slice Ao8 t711.length co8)) (fun _ hk => hk.1.2) (.int .i64 t714)) (fun _ hk => hk.2) (.bool t710)) (fun _ hk => hk.2) (.slice Ao8 t711.length co8)) (fun _ hk => hk.2) (.int .i64 t714)) (fun _ hk => trivial), bl_ HB⟩

/-! ### r03_Sign: function 73 -/
def r03_Sign.f (k : Nat) (a0_0 : Bool) (l0_1 : List Int) (a0_2 : Int) : Option (Int) := (r02_Len.f k l0_1).bind fun t718 => (if t718 = 0 then (some 0) else (if a0_0 = true then (some (-1)) else (some 1)))
theorem r03_Sign.mono : ∀ a0 a1 a2 k, LeO (r03_Sign.f k a0 a1 a2) (r03_Sign.f (k + 1) a0 a1 a2) := by
 intro a0 a1 a2 k
 unfold r03_Sign.f
 repeat' first
   | (with_reducible exact r02_Len.mono _ _)
   | (with_reducible exact LeO.refl _)
   | (with_reducible exact LeO.none _)
   | (with_reducible refine LeO.ite ?_ ?_)
   | (with_reducible refine LeO.bind ?_ (fun _ => ?_))
   | exact r02_Len.mono _ _
   | exact LeO.none _
   | refine LeO.ite ?_ ?_
   | refine LeO.bind ?_ (fun _ => ?_)
set_option maxHeartbeats 3000000 in
set_option maxRecDepth 100000 in
theorem r03_Sign.calls (k : Nat) (a0_0 : Bool) (A0_1 : Option Addr) (c0_1 : Nat) (l0_1 : List Int) (a0_2 : Int) (r : Int) (w : World) (hr0_1 : Kd.C (Kd.int .u32) w A0_1 l0_1.length l0_1) (hc0_1 : l0_1.length ≤ c0_1) (h : r03_Sign.f k a0_0 l0_1 a0_2 = some r) :
  Calls Try.prog 73 #[.agg #[.bool a0_0, .slice A0_1 l0_1.length c0_1, .int .i64 a0_2]] w fun e w' => e = .returned (.int .i64 r) ∧ Below w.heap.size w w' := by
 have hu43 := Try.underlying43
 have HR0_1 := Aside0.mk hr0_1
 have HC0_1 := Aside0.mk hc0_1
 clear hr0_1 hc0_1
 have HB := Aside0.mk (Below.refl w.heap.size w)
 have H : ((r02_Len.f k l0_1).bind fun t718 => (if t718 = 0 then (some 0) else (if a0_0 = true then (some (-1)) else (some 1)))) = some r := h
 clear h
 obtain ⟨t718, A2, H⟩ := ob_ H
 try dsimp only at H
 by_cases c3 : t718 = 0
 ·rw [if_pos c3] at H
  have c3b0 : (t718 == 0) = true := beq_iff_eq.mpr c3
  have c3b1 : (t718 != 0) = false := bne_eq_false_iff_eq.mpr c3
  clear c3
  obtain rfl := Option.some.inj H
  go_enter Try.func73, Try.ntmps73
  go_wp2_with (first | ((with_reducible refine gate_dst (N := 1) rfl ?_); refine box_event ?hg (N := 1) ?hd (cs := #[.bool a0_0, .slice A0_1 l0_1.length c0_1, .int .i64 a0_2]) (t := 43) ?hr ?_; (case hd => rfl); (case hg => rfl); (case hr => first | (go_simp; done) | (go_simp; rfl)); intro gb717 hg w4 hbox hb; have n0_ := bs_ HB hb; have n1_ := Aside0.mk (hbox); have n2_ := ge_ HB hg; have n3_ := ge_ HB hg; clear HB; have HB := n0_; have BK717 := n1_; have GW717 := n2_; have GE717 := n3_; clear n0_ n1_ n2_ n3_; clear hb hbox hg; have hcz5_0 : w4.cell? ⟨gb717, 0, none⟩ = some (.bool a0_0) := (blk_cell BK717.out 0).trans rfl; have hcz5_1 : w4.cell? ⟨gb717, 1, none⟩ = some (.slice A0_1 l0_1.length c0_1) := (blk_cell BK717.out 1).trans rfl; have hcz5_2 : w4.cell? ⟨gb717, 2, none⟩ = some (.int .i64 a0_2) := (blk_cell BK717.out 2).trans rfl; have hfz5_0 := blk_frozen BK717.out 0; have hfz5_1 := blk_frozen BK717.out 1; have hfz5_2 := blk_frozen BK717.out 2) | ((with_reducible refine gate_callee (f := 55) rfl ?_); refine goesM (some 5) Try.func55 #[.slice A0_1 l0_1.length c0_1] ?_; (with_reducible refine (r02_Len.calls k _ _ l0_1 t718 _ ?side1 ?side2 A2.out).mono ?_); (case side1 => repeat (first | exact (Kd.C_below HR0_1.out HB.out) | (with_reducible first | apply cA | apply cN | apply cD))); (case side2 => exact HC0_1.out); rintro e w' ⟨rfl, ⟨nd, rfl⟩⟩; refine ⟨_, rfl, ?_⟩))
  go_ret
  exact ⟨by first | rfl | (simp [errW_none, errW_some] <;> rfl) | (simp [*, errW_none, errW_some] <;> rfl), bl_ HB⟩
 ·rw [if_neg c3] at H
  have c3b0 : (t718 == 0) = false := beq_eq_false_iff_ne.mpr c3
  have c3b1 : (t718 != 0) = true := bne_iff_ne.mpr c3
  by_cases c6 : a0_0 = true
  ·subst c6
   have H1 : (some (-1)) = some r := by rw [if_pos rfl] at H; exact H
   clear H
   have H := H1
   clear H1
   obtain rfl := Option.some.inj H
   go_enter Try.func73, Try.ntmps73
   go_wp2_with (first | ((with_reducible refine gate_dst (N := 1) rfl ?_); refine box_event ?hg (N := 1) ?hd (cs := #[.bool true, .slice A0_1 l0_1.length c0_1, .int .i64 a0_2]) (t := 43) ?hr ?_; (case hd => rfl); (case hg => rfl); (case hr => first | (go_simp; done) | (go_simp; rfl)); intro gb717 hg w7 hbox hb; have n0_ := bs_ HB hb; have n1_ := Aside0.mk (hbox); have n2_ := ge_ HB hg; have n3_ := ge_ HB hg; clear HB; have HB := n0_; have BK717 := n1_; have GW717 := n2_; have GE717 := n3_; clear n0_ n1_ n2_ n3_; clear hb hbox hg; have hcz8_0 : w7.cell? ⟨gb717, 0, none⟩ = some (.bool true) := (blk_cell BK717.out 0).trans rfl; have hcz8_1 : w7.cell? ⟨gb717, 1, none⟩ = some (.slice A0_1 l0_1.length c0_1) := (blk_cell BK717.out 1).trans rfl; have hcz8_2 : w7.cell? ⟨gb717, 2, none⟩ = some (.int .i64 a0_2) := (blk_cell BK717.out 2).trans rfl; have hfz8_0 := blk_frozen BK717.out 0; have hfz8_1 := blk_frozen BK717.out 1; have hfz8_2 := blk_frozen BK717.out 2) | ((with_reducible refine gate_callee (f := 55) rfl ?_); refine goesM (some 5) Try.func55 #[.slice A0_1 l0_1.length c0_1] ?_; (with_reducible refine (r02_Len.calls k _ _ l0_1 t718 _ ?side1 ?side2 A2.out).mono ?_); (case side1 => repeat (first | exact (Kd.C_below HR0_1.out HB.out) | (with_reducible first | apply cA | apply cN | apply cD))); (case side2 => exact HC0_1.out); rintro e w' ⟨rfl, ⟨nd, rfl⟩⟩; refine ⟨_, rfl, ?_⟩))
   go_ret
   exact ⟨by first | rfl | (simp [errW_none, errW_some] <;> rfl) | (simp [*, errW_none, errW_some] <;> rfl), bl_ HB⟩
  ·replace c6 := Bool.eq_false_iff.mpr c6
   subst c6
   have H1 : (some 1) = some r := by rw [if_neg (show ¬ (false = true) by decide)] at H; exact H
   clear H
   have H := H1
   clear H1
   obtain rfl := Option.some.inj H
   go_enter Try.func73, Try.ntmps73
   go_wp2_with (first | ((with_reducible refine gate_dst (N := 1) rfl ?_); refine box_event ?hg (N := 1) ?hd (cs := #[.bool false, .slice A0_1 l0_1.length c0_1, .int .i64 a0_2]) (t := 43) ?hr ?_; (case hd => rfl); (case hg => rfl); (case hr => first | (go_simp; done) | (go_simp; rfl)); intro gb717 hg w9 hbox hb; have n0_ := bs_ HB hb; have n1_ := Aside0.mk (hbox); have n2_ := ge_ HB hg; have n3_ := ge_ HB hg; clear HB; have HB := n0_; have BK717 := n1_; have GW717 := n2_; have GE717 := n3_; clear n0_ n1_ n2_ n3_; clear hb hbox hg; have hcz10_0 : w9.cell? ⟨gb717, 0, none⟩ = some (.bool false) := (blk_cell BK717.out 0).trans rfl; have hcz10_1 : w9.cell? ⟨gb717, 1, none⟩ = some (.slice A0_1 l0_1.length c0_1) := (blk_cell BK717.out 1).trans rfl; have hcz10_2 : w9.cell? ⟨gb717, 2, none⟩ = some (.int .i64 a0_2) := (blk_cell BK717.out 2).trans rfl; have hfz10_0 := blk_frozen BK717.out 0; have hfz10_1 := blk_frozen BK717.out 1; have hfz10_2 := blk_frozen BK717.out 2) | ((with_reducible refine gate_callee (f := 55) rfl ?_); refine goesM (some 5) Try.func55 #[.slice A0_1 l0_1.length c0_1] ?_; (with_reducible refine (r02_Len.calls k _ _ l0_1 t718 _ ?side1 ?side2 A2.out).mono ?_); (case side1 => repeat (first | exact (Kd.C_below HR0_1.out HB.out) | (with_reducible first | apply cA | apply cN | apply cD))); (case side2 => exact HC0_1.out); rintro e w' ⟨rfl, ⟨nd, rfl⟩⟩; refine ⟨_, rfl, ?_⟩))
   go_ret
   exact ⟨by first | rfl | (simp [errW_none, errW_some] <;> rfl) | (simp [*, errW_none, errW_some] <;> rfl), bl_ HB⟩

/-! ### r03_Cmp: function 53 -/
def r03_Cmp.f (k : Nat) (a0_0 : Bool) (l0_1 : List Int) (a0_2 : Int) (a1_0 : Bool) (l1_1 : List Int) (a1_2 : Int) : Option (Int) := (r03_Sign.f k a0_0 l0_1 a0_2).bind fun t721 => ((r03_Sign.f k a1_0 l1_1 a1_2).bind fun t722 => (if t721 < t722 then (some (-1)) else (if t721 > t722 then (some 1) else (if t721 < 0 then ((r03_Against.f k l1_1 a1_2 l0_1 a0_2).bind fun t723 => (some t723)) else ((r03_Against.f k l0_1 a0_2 l1_1 a1_2).bind fun t724 => (some t724))))))
theorem r03_Cmp.mono : ∀ a0 a1 a2 a3 a4 a5 k, LeO (r03_Cmp.f k a0 a1 a2 a3 a4 a5) (r03_Cmp.f (k + 1) a0 a1 a2 a3 a4 a5) := by
 intro a0 a1 a2 a3 a4 a5 k
 unfold r03_Cmp.f
 repeat' first
   | (with_reducible exact r03_Against.mono _ _ _ _ _)
   | (with_reducible exact r03_Sign.mono _ _ _ _)
   | (with_reducible exact LeO.refl _)
   | (with_reducible exact LeO.none _)
   | (with_reducible refine LeO.ite ?_ ?_)
   | (with_reducible refine LeO.bind ?_ (fun _ => ?_))
   | exact r03_Against.mono _ _ _ _ _
   | exact r03_Sign.mono _ _ _ _
   | exact LeO.none _
   | refine LeO.ite ?_ ?_
   | refine LeO.bind ?_ (fun _ => ?_)
set_option maxHeartbeats 3000000 in
set_option maxRecDepth 100000 in
theorem r03_Cmp.calls (k : Nat) (a0_0 : Bool) (A0_1 : Option Addr) (c0_1 : Nat) (l0_1 : List Int) (a0_2 : Int) (a1_0 : Bool) (A1_1 : Option Addr) (c1_1 : Nat) (l1_1 : List Int) (a1_2 : Int) (r : Int) (w : World) (hr0_1 : Kd.C (Kd.int .u32) w A0_1 l0_1.length l0_1) (hc0_1 : l0_1.length ≤ c0_1) (hr1_1 : Kd.C (Kd.int .u32) w A1_1 l1_1.length l1_1) (hc1_1 : l1_1.length ≤ c1_1) (h : r03_Cmp.f k a0_0 l0_1 a0_2 a1_0 l1_1 a1_2 = some r) :
  Calls Try.prog 53 #[.agg #[.bool a0_0, .slice A0_1 l0_1.length c0_1, .int .i64 a0_2], .agg #[.bool a1_0, .slice A1_1 l1_1.length c1_1, .int .i64 a1_2]] w fun e w' => e = .returned (.int .i64 r) ∧ Below w.heap.size w w' := by
 have hu43 := Try.underlying43
 have HR0_1 := Aside0.mk hr0_1
 have HC0_1 := Aside0.mk hc0_1
 clear hr0_1 hc0_1
 have HR1_1 := Aside0.mk hr1_1
 have HC1_1 := Aside0.mk hc1_1
 clear hr1_1 hc1_1
 have HB := Aside0.mk (Below.refl w.heap.size w)
 have H : ((r03_Sign.f k a0_0 l0_1 a0_2).bind fun t721 => ((r03_Sign.f k a1_0 l1_1 a1_2).bind fun t722 => (if t721 < t722 then (some (-1)) else (if t721 > t722 then (some 1) else (if t721 < 0 then ((r03_Against.f k l1_1 a1_2 l0_1 a0_2).bind fun t723 => (some t723)) else ((r03_Against.f k l0_1 a0_2 l1_1 a1_2).bind fun t724 => (some t724))))))) = some r := h
 clear h
 obtain ⟨t721, A3, H⟩ := ob_ H
 try dsimp only at H
 obtain ⟨t722, A4, H⟩ := ob_ H
 try dsimp only at H
 by_cases c5 : t721 < t722
 ·rw [if_pos c5] at H
  have c5b0 : decide (t721 < t722) = true := decide_eq_true c5
  clear c5
  obtain rfl := Option.some.inj H
  go_enter Try.func53, Try.ntmps53
  go_wp2_with (first | ((with_reducible refine gate_dst (N := 2) rfl ?_); refine box_event ?hg (N := 2) ?hd (cs := #[.bool a0_0, .slice A0_1 l0_1.length c0_1, .int .i64 a0_2]) (t := 43) ?hr ?_; (case hd => rfl); (case hg => rfl); (case hr => first | (go_simp; done) | (go_simp; rfl)); intro gb719 hg w6 hbox hb; have n0_ := bs_ HB hb; have n1_ := Aside0.mk (hbox); have n2_ := ge_ HB hg; have n3_ := ge_ HB hg; clear HB; have HB := n0_; have BK719 := n1_; have GW719 := n2_; have GE719 := n3_; clear n0_ n1_ n2_ n3_; clear hb hbox hg) | ((with_reducible refine gate_dst (N := 3) rfl ?_); refine box_event ?hg (N := 3) ?hd (cs := #[.bool a1_0, .slice A1_1 l1_1.length c1_1, .int .i64 a1_2]) (t := 43) ?hr ?_; (case hd => rfl); (case hg => rfl); (case hr => first | (go_simp; done) | (go_simp; rfl)); intro gb720 hg w7 hbox hb; have n0_ := kb_ BK719 hb; have n1_ := bs_ HB hb; have n2_ := Aside0.mk (hbox); have n3_ := ge_ HB hg; have n4_ := ge_ HB hg; have n5_ := nlt_ BK719 hg; have n6_ := ngt_ BK719 hg; clear BK719; clear HB; have BK719 := n0_; have HB := n1_; have BK720 := n2_; have GW720 := n3_; have GE720 := n4_; have NB719_720 := n5_; have NB720_719 := n6_; clear n0_ n1_ n2_ n3_ n4_ n5_ n6_; clear hb hbox hg; have hnb8 := NB719_720.out; have hnc8 := NB720_719.out; have hcz9_0 : w7.cell? ⟨gb719, 0, none⟩ = some (.bool a0_0) := (blk_cell BK719.out 0).trans rfl; have hcz9_1 : w7.cell? ⟨gb719, 1, none⟩ = some (.slice A0_1 l0_1.length c0_1) := (blk_cell BK719.out 1).trans rfl; have hcz9_2 : w7.cell? ⟨gb719, 2, none⟩ = some (.int .i64 a0_2) := (blk_cell BK719.out 2).trans rfl; have hfz9_0 := blk_frozen BK719.out 0; have hfz9_1 := blk_frozen BK719.out 1; have hfz9_2 := blk_frozen BK719.out 2) | ((with_reducible refine gate_callee (f := 73) rfl ?_); refine goesM (some 8) Try.func73 #[.agg #[.bool a0_0, .slice A0_1 l0_1.length c0_1, .int .i64 a0_2]] ?_; (with_reducible refine (r03_Sign.calls k a0_0 _ _ l0_1 a0_2 t721 _ ?side1 ?side2 A3.out).mono ?_); (case side1 => repeat (first | exact (Kd.C_below HR0_1.out HB.out) | (with_reducible first | apply cA | apply cN | apply cD))); (case side2 => exact HC0_1.out); rintro e w10 ⟨rfl, hb⟩; refine ⟨_, rfl, ?_⟩; have n0_ := kb_ BK719 hb; have n1_ := kb_ BK720 hb; have n2_ := bs_ HB hb; clear BK719; clear BK720; clear HB; have BK719 := n0_; have BK720 := n1_; have HB := n2_; clear n0_ n1_ n2_; (try clear hb); (try clear hb2); (try clear hk); (try clear hi); have hcz11_0 : w10.cell? ⟨gb720, 0, none⟩ = some (.bool a1_0) := (blk_cell BK720.out 0).trans rfl; have hcz11_1 : w10.cell? ⟨gb720, 1, none⟩ = some (.slice A1_1 l1_1.length c1_1) := (blk_cell BK720.out 1).trans rfl; have hcz11_2 : w10.cell? ⟨gb720, 2, none⟩ = some (.int .i64 a1_2) := (blk_cell BK720.out 2).trans rfl; have hfz11_0 := blk_frozen BK720.out 0; have hfz11_1 := blk_frozen BK720.out 1; have hfz11_2 := blk_frozen BK720.out 2) | ((with_reducible refine gate_callee (f := 73) rfl ?_); refine goesM (some 10) Try.func73 #[.agg #[.bool a1_0, .slice A1_1 l1_1.length c1_1, .int .i64 a1_2]] ?_; (with_reducible refine (r03_Sign.calls k a1_0 _ _ l1_1 a1_2 t722 _ ?side1 ?side2 A4.out).mono ?_); (case side1 => repeat (first | exact (Kd.C_below HR1_1.out HB.out) | (with_reducible first | apply cA | apply cN | apply cD))); (case side2 => exact HC1_1.out); rintro e w12 ⟨rfl, hb⟩; refine ⟨_, rfl, ?_⟩; have n0_ := kb_ BK719 hb; have n1_ := kb_ BK720 hb; have n2_ := bs_ HB hb; clear BK719; clear BK720; clear HB; have BK719 := n0_; have BK720 := n1_; have HB := n2_; clear n0_ n1_ n2_; (try clear hb); (try clear hb2); (try clear hk); (try clear hi)))
  go_ret
  exact ⟨by first | rfl | (simp [errW_none, errW_some] <;> rfl) | (simp [*, errW_none, errW_some] <;> rfl), bl_ HB⟩
 ·rw [if_neg c5] at H
  have c5b0 : decide (t721 < t722) = false := decide_eq_false c5
  clear c5
  by_cases c13 : t721 > t722
  ·rw [if_pos c13] at H
   have c13b0 : decide (t722 < t721) = true := decide_eq_true c13
   clear c13
   obtain rfl := Option.some.inj H
   go_enter Try.func53, Try.ntmps53
   go_wp2_with (first | ((with_reducible refine gate_dst (N := 2) rfl ?_); refine box_event ?hg (N := 2) ?hd (cs := #[.bool a0_0, .slice A0_1 l0_1.length c0_1, .int .i64 a0_2]) (t := 43) ?hr ?_; (case hd => rfl); (case hg => rfl); (case hr => first | (go_simp; done) | (go_simp; rfl)); intro gb719 hg w14 hbox hb; have n0_ := bs_ HB hb; have n1_ := Aside0.mk (hbox); have n2_ := ge_ HB hg; have n3_ := ge_ HB hg; clear HB; have HB := n0_; have BK719 := n1_; have GW719 := n2_; have GE719 := n3_; clear n0_ n1_ n2_ n3_; clear hb hbox hg) | ((with_reducible refine gate_dst (N := 3) rfl ?_); refine box_event ?hg (N := 3) ?hd (cs := #[.bool a1_0, .slice A1_1 l1_1.length c1_1, .int .i64 a1_2]) (t := 43) ?hr ?_; (case hd => rfl); (case hg => rfl); (case hr => first | (go_simp; done) | (go_simp; rfl)); intro gb720 hg w15 hbox hb; have n0_ := kb_ BK719 hb; have n1_ := bs_ HB hb; have n2_ := Aside0.mk (hbox); have n3_ := ge_ HB hg; have n4_ := ge_ HB hg; have n5_ := nlt_ BK719 hg; have n6_ := ngt_ BK719 hg; clear BK719; clear HB; have BK719 := n0_; have HB := n1_; have BK720 := n2_; have GW720 := n3_; have GE720 := n4_; have NB719_720 := n5_; have NB720_719 := n6_; clear n0_ n1_ n2_ n3_ n4_ n5_ n6_; clear hb hbox hg; have hnb16 := NB719_720.out; have hnc16 := NB720_719.out; have hcz17_0 : w15.cell? ⟨gb719, 0, none⟩ = some (.bool a0_0) := (blk_cell BK719.out 0).trans rfl; have hcz17_1 : w15.cell? ⟨gb719, 1, none⟩ = some (.slice A0_1 l0_1.length c0_1) := (blk_cell BK719.out 1).trans rfl; have hcz17_2 : w15.cell? ⟨gb719, 2, none⟩ = some (.int .i64 a0_2) := (blk_cell BK719.out 2).trans rfl; have hfz17_0 := blk_frozen BK719.out 0; have hfz17_1 := blk_frozen BK719.out 1; have hfz17_2 := blk_frozen BK719.out 2) | ((with_reducible refine gate_callee (f := 73) rfl ?_); refine goesM (some 8) Try.func73 #[.agg #[.bool a0_0, .slice A0_1 l0_1.length c0_1, .int .i64 a0_2]] ?_; (with_reducible refine (r03_Sign.calls k a0_0 _ _ l0_1 a0_2 t721 _ ?side1 ?side2 A3.out).mono ?_); (case side1 => repeat (first | exact (Kd.C_below HR0_1.out HB.out) | (with_reducible first | apply cA | apply cN | apply cD))); (case side2 => exact HC0_1.out); rintro e w18 ⟨rfl, hb⟩; refine ⟨_, rfl, ?_⟩; have n0_ := kb_ BK719 hb; have n1_ := kb_ BK720 hb; have n2_ := bs_ HB hb; clear BK719; clear BK720; clear HB; have BK719 := n0_; have BK720 := n1_; have HB := n2_; clear n0_ n1_ n2_; (try clear hb); (try clear hb2); (try clear hk); (try clear hi); have hcz19_0 : w18.cell? ⟨gb720, 0, none⟩ = some (.bool a1_0) := (blk_cell BK720.out 0).trans rfl; have hcz19_1 : w18.cell? ⟨gb720, 1, none⟩ = some (.slice A1_1 l1_1.length c1_1) := (blk_cell BK720.out 1).trans rfl; have hcz19_2 : w18.cell? ⟨gb720, 2, none⟩ = some (.int .i64 a1_2) := (blk_cell BK720.out 2).trans rfl; have hfz19_0 := blk_frozen BK720.out 0; have hfz19_1 := blk_frozen BK720.out 1; have hfz19_2 := blk_frozen BK720.out 2) | ((with_reducible refine gate_callee (f := 73) rfl ?_); refine goesM (some 10) Try.func73 #[.agg #[.bool a1_0, .slice A1_1 l1_1.length c1_1, .int .i64 a1_2]] ?_; (with_reducible refine (r03_Sign.calls k a1_0 _ _ l1_1 a1_2 t722 _ ?side1 ?side2 A4.out).mono ?_); (case side1 => repeat (first | exact (Kd.C_below HR1_1.out HB.out) | (with_reducible first | apply cA | apply cN | apply cD))); (case side2 => exact HC1_1.out); rintro e w20 ⟨rfl, hb⟩; refine ⟨_, rfl, ?_⟩; have n0_ := kb_ BK719 hb; have n1_ := kb_ BK720 hb; have n2_ := bs_ HB hb; clear BK719; clear BK720; clear HB; have BK719 := n0_; have BK720 := n1_; have HB := n2_; clear n0_ n1_ n2_; (try clear hb); (try clear hb2); (try clear hk); (try clear hi)))
   go_ret
   exact ⟨by first | rfl | (simp [errW_none, errW_some] <;> rfl) | (simp [*, errW_none, errW_some] <;> rfl), bl_ HB⟩
  ·rw [if_neg c13] at H
   have c13b0 : decide (t722 < t721) = false := decide_eq_false c13
   clear c13
   by_cases c21 : t721 < 0
   ·rw [if_pos c21] at H
    have c21b0 : decide (t721 < 0) = true := decide_eq_true c21
    clear c21
    obtain ⟨t723, A22, H⟩ := ob_ H
    try dsimp only at H
    obtain rfl := Option.some.inj H
    go_enter Try.func53, Try.ntmps53
    go_wp2_with (first | ((with_reducible refine gate_dst (N := 2) rfl ?_); refine box_event ?hg (N := 2) ?hd (cs := #[.bool a0_0, .slice A0_1 l0_1.length c0_1, .int .i64 a0_2]) (t := 43) ?hr ?_; (case hd => rfl); (case hg => rfl); (case hr => first | (go_simp; done) | (go_simp; rfl)); intro gb719 hg w23 hbox hb; have n0_ := bs_ HB hb; have n1_ := Aside0.mk (hbox); have n2_ := ge_ HB hg; have n3_ := ge_ HB hg; clear HB; have HB := n0_; have BK719 := n1_; have GW719 := n2_; have GE719 := n3_; clear n0_ n1_ n2_ n3_; clear hb hbox hg) | ((with_reducible refine gate_dst (N := 3) rfl ?_); refine box_event ?hg (N := 3) ?hd (cs := #[.bool a1_0, .slice A1_1 l1_1.length c1_1, .int .i64 a1_2]) (t := 43) ?hr ?_; (case hd => rfl); (case hg => rfl); (case hr => first | (go_simp; done) | (go_simp; rfl)); intro gb720 hg w24 hbox hb; have n0_ := kb_ BK719 hb; have n1_ := bs_ HB hb; have n2_ := Aside0.mk (hbox); have n3_ := ge_ HB hg; have n4_ := ge_ HB hg; have n5_ := nlt_ BK719 hg; have n6_ := ngt_ BK719 hg; clear BK719; clear HB; have BK719 := n0_; have HB := n1_; have BK720 := n2_; have GW720 := n3_; have GE720 := n4_; have NB719_720 := n5_; have NB720_719 := n6_; clear n0_ n1_ n2_ n3_ n4_ n5_ n6_; clear hb hbox hg; have hnb25 := NB719_720.out; have hnc25 := NB720_719.out; have hcz26_0 : w24.cell? ⟨gb719, 0, none⟩ = some (.bool a0_0) := (blk_cell BK719.out 0).trans rfl; have hcz26_1 : w24.cell? ⟨gb719, 1, none⟩ = some (.slice A0_1 l0_1.length c0_1) := (blk_cell BK719.out 1).trans rfl; have hcz26_2 : w24.cell? ⟨gb719, 2, none⟩ = some (.int .i64 a0_2) := (blk_cell BK719.out 2).trans rfl; have hfz26_0 := blk_frozen BK719.out 0; have hfz26_1 := blk_frozen BK719.out 1; have hfz26_2 := blk_frozen BK719.out 2) | ((with_reducible refine gate_callee (f := 73) rfl ?_); refine goesM (some 8) Try.func73 #[.agg #[.bool a0_0, .slice A0_1 l0_1.length c0_1, .int .i64 a0_2]] ?_; (with_reducible refine (r03_Sign.calls k a0_0 _ _ l0_1 a0_2 t721 _ ?side1 ?side2 A3.out).mono ?_); (case side1 => repeat (first | exact (Kd.C_below HR0_1.out HB.out) | (with_reducible first | apply cA | apply cN | apply cD))); (case side2 => exact HC0_1.out); rintro e w27 ⟨rfl, hb⟩; refine ⟨_, rfl, ?_⟩; have n0_ := kb_ BK719 hb; have n1_ := kb_ BK720 hb; have n2_ := bs_ HB hb; clear BK719; clear BK720; clear HB; have BK719 := n0_; have BK720 := n1_; have HB := n2_; clear n0_ n1_ n2_; (try clear hb); (try clear hb2); (try clear hk); (try clear hi); have hcz28_0 : w27.cell? ⟨gb720, 0, none⟩ = some (.bool a1_0) := (blk_cell BK720.out 0).trans rfl; have hcz28_1 : w27.cell? ⟨gb720, 1, none⟩ = some (.slice A1_1 l1_1.length c1_1) := (blk_cell BK720.out 1).trans rfl; have hcz28_2 : w27.cell? ⟨gb720, 2, none⟩ = some (.int .i64 a1_2) := (blk_cell BK720.out 2).trans rfl; have hfz28_0 := blk_frozen BK720.out 0; have hfz28_1 := blk_frozen BK720.out 1; have hfz28_2 := blk_frozen BK720.out 2) | ((with_reducible refine gate_callee (f := 73) rfl ?_); refine goesM (some 10) Try.func73 #[.agg #[.bool a1_0, .slice A1_1 l1_1.length c1_1, .int .i64 a1_2]] ?_; (with_reducible refine (r03_Sign.calls k a1_0 _ _ l1_1 a1_2 t722 _ ?side1 ?side2 A4.out).mono ?_); (case side1 => repeat (first | exact (Kd.C_below HR1_1.out HB.out) | (with_reducible first | apply cA | apply cN | apply cD))); (case side2 => exact HC1_1.out); rintro e w29 ⟨rfl, hb⟩; refine ⟨_, rfl, ?_⟩; have n0_ := kb_ BK719 hb; have n1_ := kb_ BK720 hb; have n2_ := bs_ HB hb; clear BK719; clear BK720; clear HB; have BK719 := n0_; have BK720 := n1_; have HB := n2_; clear n0_ n1_ n2_; (try clear hb); (try clear hb2); (try clear hk); (try clear hi); have hcz30_0 : w29.cell? ⟨gb720, 0, none⟩ = some (.bool a1_0) := (blk_cell BK720.out 0).trans rfl; have hcz30_1 : w29.cell? ⟨gb720, 1, none⟩ = some (.slice A1_1 l1_1.length c1_1) := (blk_cell BK720.out 1).trans rfl; have hcz30_2 : w29.cell? ⟨gb720, 2, none⟩ = some (.int .i64 a1_2) := (blk_cell BK720.out 2).trans rfl; have hfz30_0 := blk_frozen BK720.out 0; have hfz30_1 := blk_frozen BK720.out 1; have hfz30_2 := blk_frozen BK720.out 2; have hcz31_0 : w29.cell? ⟨gb719, 0, none⟩ = some (.bool a0_0) := (blk_cell BK719.out 0).trans rfl; have hcz31_1 : w29.cell? ⟨gb719, 1, none⟩ = some (.slice A0_1 l0_1.length c0_1) := (blk_cell BK719.out 1).trans rfl; have hcz31_2 : w29.cell? ⟨gb719, 2, none⟩ = some (.int .i64 a0_2) := (blk_cell BK719.out 2).trans rfl; have hfz31_0 := blk_frozen BK719.out 0; have hfz31_1 := blk_frozen BK719.out 1; have hfz31_2 := blk_frozen BK719.out 2) | ((with_reducible refine gate_callee (f := 74) rfl ?_); refine goesM (some 30) Try.func74 #[.slice A1_1 l1_1.length c1_1, .int .i64 a1_2, .slice A0_1 l0_1.length c0_1, .int .i64 a0_2] ?_; (with_reducible refine (r03_Against.calls k _ _ l1_1 a1_2 _ _ l0_1 a0_2 t723 _ ?side1 ?side2 ?side3 ?side4 A22.out).mono ?_); (case side1 => repeat (first | exact (Kd.C_below HR1_1.out HB.out) | (with_reducible first | apply cA | apply cN | apply cD))); (case side2 => exact HC1_1.out); (case side3 => repeat (first | exact (Kd.C_below HR0_1.out HB.out) | (with_reducible first | apply cA | apply cN | apply cD))); (case side4 => exact HC0_1.out); rintro e w32 ⟨rfl, hb⟩; refine ⟨_, rfl, ?_⟩; have n0_ := kb_ BK719 hb; have n1_ := kb_ BK720 hb; have n2_ := bs_ HB hb; clear BK719; clear BK720; clear HB; have BK719 := n0_; have BK720 := n1_; have HB := n2_; clear n0_ n1_ n2_; (try clear hb); (try clear hb2); (try clear hk); (try clear hi)))
    go_ret
    exact ⟨by first | rfl | (simp [errW_none, errW_some] <;> rfl) | (simp [*, errW_none, errW_some] <;> rfl), bl_ HB⟩
   ·rw [if_neg c21] at H
    have c21b0 : decide (t721 < 0) = false := decide_eq_false c21
    clear c21
    obtain ⟨t724, A33, H⟩ := ob_ H
    try dsimp only at H
    obtain rfl := Option.some.inj H
    go_enter Try.func53, Try.ntmps53
    go_wp2_with (first | ((with_reducible refine gate_dst (N := 2) rfl ?_); refine box_event ?hg (N := 2) ?hd (cs := #[.bool a0_0, .slice A0_1 l0_1.length c0_1, .int .i64 a0_2]) (t := 43) ?hr ?_; (case hd => rfl); (case hg => rfl); (case hr => first | (go_simp; done) | (go_simp; rfl)); intro gb719 hg w34 hbox hb; have n0_ := bs_ HB hb; have n1_ := Aside0.mk (hbox); have n2_ := ge_ HB hg; have n3_ := ge_ HB hg; clear HB; have HB := n0_; have BK719 := n1_; have GW719 := n2_; have GE719 := n3_; clear n0_ n1_ n2_ n3_; clear hb hbox hg) | ((with_reducible refine gate_dst (N := 3) rfl ?_); refine box_event ?hg (N := 3) ?hd (cs := #[.bool a1_0, .slice A1_1 l1_1.length c1_1, .int .i64 a1_2]) (t := 43) ?hr ?_; (case hd => rfl); (case hg => rfl); (case hr => first | (go_simp; done) | (go_simp; rfl)); intro gb720 hg w35 hbox hb; have n0_ := kb_ BK719 hb; have n1_ := bs_ HB hb; have n2_ := Aside0.mk (hbox); have n3_ := ge_ HB hg; have n4_ := ge_ HB hg; have n5_ := nlt_ BK719 hg; have n6_ := ngt_ BK719 hg; clear BK719; clear HB; have BK719 := n0_; have HB := n1_; have BK720 := n2_; have GW720 := n3_; have GE720 := n4_; have NB719_720 := n5_; have NB720_719 := n6_; clear n0_ n1_ n2_ n3_ n4_ n5_ n6_; clear hb hbox hg; have hnb36 := NB719_720.out; have hnc36 := NB720_719.out; have hcz37_0 : w35.cell? ⟨gb719, 0, none⟩ = some (.bool a0_0) := (blk_cell BK719.out 0).trans rfl; have hcz37_1 : w35.cell? ⟨gb719, 1, none⟩ = some (.slice A0_1 l0_1.length c0_1) := (blk_cell BK719.out 1).trans rfl; have hcz37_2 : w35.cell? ⟨gb719, 2, none⟩ = some (.int .i64 a0_2) := (blk_cell BK719.out 2).trans rfl; have hfz37_0 := blk_frozen BK719.out 0; have hfz37_1 := blk_frozen BK719.out 1; have hfz37_2 := blk_frozen BK719.out 2) | ((with_reducible refine gate_callee (f := 73) rfl ?_); refine goesM (some 8) Try.func73 #[.agg #[.bool a0_0, .slice A0_1 l0_1.length c0_1, .int .i64 a0_2]] ?_; (with_reducible refine (r03_Sign.calls k a0_0 _ _ l0_1 a0_2 t721 _ ?side1 ?side2 A3.out).mono ?_); (case side1 => repeat (first | exact (Kd.C_below HR0_1.out HB.out) | (with_reducible first | apply cA | apply cN | apply cD))); (case side2 => exact HC0_1.out); rintro e w38 ⟨rfl, hb⟩; refine ⟨_, rfl, ?_⟩; have n0_ := kb_ BK719 hb; have n1_ := kb_ BK720 hb; have n2_ := bs_ HB hb; clear BK719; clear BK720; clear HB; have BK719 := n0_; have BK720 := n1_; have HB := n2_; clear n0_ n1_ n2_; (try clear hb); (try clear hb2); (try clear hk); (try clear hi); have hcz39_0 : w38.cell? ⟨gb720, 0, none⟩ = some (.bool a1_0) := (blk_cell BK720.out 0).trans rfl; have hcz39_1 : w38.cell? ⟨gb720, 1, none⟩ = some (.slice A1_1 l1_1.length c1_1) := (blk_cell BK720.out 1).trans rfl; have hcz39_2 : w38.cell? ⟨gb720, 2, none⟩ = some (.int .i64 a1_2) := (blk_cell BK720.out 2).trans rfl; have hfz39_0 := blk_frozen BK720.out 0; have hfz39_1 := blk_frozen BK720.out 1; have hfz39_2 := blk_frozen BK720.out 2) | ((with_reducible refine gate_callee (f := 73) rfl ?_); refine goesM (some 10) Try.func73 #[.agg #[.bool a1_0, .slice A1_1 l1_1.length c1_1, .int .i64 a1_2]] ?_; (with_reducible refine (r03_Sign.calls k a1_0 _ _ l1_1 a1_2 t722 _ ?side1 ?side2 A4.out).mono ?_); (case side1 => repeat (first | exact (Kd.C_below HR1_1.out HB.out) | (with_reducible first | apply cA | apply cN | apply cD))); (case side2 => exact HC1_1.out); rintro e w40 ⟨rfl, hb⟩; refine ⟨_, rfl, ?_⟩; have n0_ := kb_ BK719 hb; have n1_ := kb_ BK720 hb; have n2_ := bs_ HB hb; clear BK719; clear BK720; clear HB; have BK719 := n0_; have BK720 := n1_; have HB := n2_; clear n0_ n1_ n2_; (try clear hb); (try clear hb2); (try clear hk); (try clear hi); have hcz41_0 : w40.cell? ⟨gb719, 0, none⟩ = some (.bool a0_0) := (blk_cell BK719.out 0).trans rfl; have hcz41_1 : w40.cell? ⟨gb719, 1, none⟩ = some (.slice A0_1 l0_1.length c0_1) := (blk_cell BK719.out 1).trans rfl; have hcz41_2 : w40.cell? ⟨gb719, 2, none⟩ = some (.int .i64 a0_2) := (blk_cell BK719.out 2).trans rfl; have hfz41_0 := blk_frozen BK719.out 0; have hfz41_1 := blk_frozen BK719.out 1; have hfz41_2 := blk_frozen BK719.out 2; have hcz42_0 : w40.cell? ⟨gb720, 0, none⟩ = some (.bool a1_0) := (blk_cell BK720.out 0).trans rfl; have hcz42_1 : w40.cell? ⟨gb720, 1, none⟩ = some (.slice A1_1 l1_1.length c1_1) := (blk_cell BK720.out 1).trans rfl; have hcz42_2 : w40.cell? ⟨gb720, 2, none⟩ = some (.int .i64 a1_2) := (blk_cell BK720.out 2).trans rfl; have hfz42_0 := blk_frozen BK720.out 0; have hfz42_1 := blk_frozen BK720.out 1; have hfz42_2 := blk_frozen BK720.out 2) | ((with_reducible refine gate_callee (f := 74) rfl ?_); refine goesM (some 39) Try.func74 #[.slice A0_1 l0_1.length c0_1, .int .i64 a0_2, .slice A1_1 l1_1.length c1_1, .int .i64 a1_2] ?_; (with_reducible refine (r03_Against.calls k _ _ l0_1 a0_2 _ _ l1_1 a1_2 t724 _ ?side1 ?side2 ?side3 ?side4 A33.out).mono ?_); (case side1 => repeat (first | exact (Kd.C_below HR0_1.out HB.out) | (with_reducible first | apply cA | apply cN | apply cD))); (case side2 => exact HC0_1.out); (case side3 => repeat (first | exact (Kd.C_below HR1_1.out HB.out) | (with_reducible first | apply cA | apply cN | apply cD))); (case side4 => exact HC1_1.out); rintro e w43 ⟨rfl, hb⟩; refine ⟨_, rfl, ?_⟩; have n0_ := kb_ BK719 hb; have n1_ := kb_ BK720 hb; have n2_ := bs_ HB hb; clear BK719; clear BK720; clear HB; have BK719 := n0_; have BK720 := n1_; have HB := n2_; clear n0_ n1_ n2_; (try clear hb); (try clear hb2); (try clear hk); (try clear hi)))
    go_ret
    exact ⟨by first | rfl | (simp [errW_none, errW_some] <;> rfl) | (simp [*, errW_none, errW_some] <;> rfl), bl_ HB⟩

/-! ### l05_size: function 54 -/
def l05_size.f (a0_0 : Bool) (l0_1 : List Int) (a0_2 : Int) : Option (Bool × List Int × Int) := some (false, l0_1, a0_2)
set_option maxHeartbeats 3000000 in
set_option maxRecDepth 100000 in
theorem l05_size.calls (a0_0 : Bool) (P0_1_ : Nat → Prop) (A0_1 : Option Addr) (c0_1 : Nat) (l0_1 : List Int) (a0_2 : Int) (r1 : Bool) (r2 : List Int) (r3 : Int) (w : World) (hs0_1 : Kd.V (Kd.int .u32) 72 w w.heap.size (fun k_ => P0_1_ k_) (.slice A0_1 l0_1.length c0_1) l0_1) (h : l05_size.f a0_0 l0_1 a0_2 = some (r1, r2, r3)) :
  Calls Try.prog 54 #[.agg #[.bool a0_0, .slice A0_1 l0_1.length c0_1, .int .i64 a0_2]] w fun e w' => ∃ v1_ : Value, e = .returned (.agg #[.bool r1, v1_, .int .i64 r3]) ∧ Kd.V (Kd.int .u32) 72 w' w.heap.size (fun k_ => (P0_1_ k_ ∨ w.heap.size ≤ k_)) v1_ r2 ∧ Below w.heap.size w w' := by
 have hu43 := Try.underlying43
 have HO0_1 := Aside0.mk (show Kd.V (Kd.int .u32) 72 w w.heap.size (fun k_ => (P0_1_ k_ ∨ w.heap.size ≤ k_)) (.slice A0_1 l0_1.length c0_1) l0_1 from Kd.V_mono hs0_1 (fun k_ hk => .inl hk))
 have HB := Aside0.mk (Below.refl w.heap.size w)
 have H : (some (false, l0_1, a0_2)) = some (r1, r2, r3) := h
 clear h
 simp only [Option.some.injEq, Prod.mk.injEq] at H
 obtain ⟨rfl, rfl, rfl⟩ := H
 go_enter Try.func54, Try.ntmps54
 go_wp2_with (first | ((with_reducible refine gate_dst (N := 1) rfl ?_); refine box_event ?hg (N := 1) ?hd (cs := #[.bool a0_0, .slice A0_1 l0_1.length c0_1, .int .i64 a0_2]) (t := 43) ?hr ?_; (case hd => rfl); (case hg => rfl); (case hr => first | (go_simp; done) | (go_simp; rfl)); intro gb725 hg w2 hbox hb; have n0_ := Aside0.mk (Kd.V_below (Kd.V_elderB (by (with_reducible repeat (first | apply Kd.V_alloc | apply Kd.V_drewN | apply Kd.V_drew)); exact HO0_1.out) gb725 (Nat.le_of_eq hg.symm)) hb); have n1_ := bs_ HB hb; have n2_ := Aside0.mk (hbox); have n3_ := ge_ HB hg; have n4_ := ge_ HB hg; clear HO0_1; clear HB; have HO0_1 := n0_; have HB := n1_; have BK725 := n2_; have GW725 := n3_; have GE725 := n4_; clear n0_ n1_ n2_ n3_ n4_; clear hb hbox hg) | ((with_reducible refine gate_dst (N := 2) rfl ?_); refine box_event ?hg (N := 2) ?hd (cs := #[.bool false, .slice none 0 0, .int .i64 0]) (t := 43) ?hr ?_; (case hd => rfl); (case hg => rfl); (case hr => first | (go_simp; done) | (go_simp; rfl)); intro gb726 hg w3 hbox hb; have n0_ := Aside0.mk (Kd.V_below (Kd.V_elderB (by (with_reducible repeat (first | apply Kd.V_alloc | apply Kd.V_drewN | apply Kd.V_drew)); exact HO0_1.out) gb726 (Nat.le_of_eq hg.symm)) hb); have n1_ := kb_ BK725 hb; have n2_ := bs_ HB hb; have n3_ := Aside0.mk (hbox); have n4_ := ge_ HB hg; have n5_ := ge_ HB hg; have n6_ := nlt_ BK725 hg; have n7_ := ngt_ BK725 hg; clear HO0_1; clear BK725; clear HB; have HO0_1 := n0_; have BK725 := n1_; have HB := n2_; have BK726 := n3_; have GW726 := n4_; have GE726 := n5_; have NB725_726 := n6_; have NB726_725 := n7_; clear n0_ n1_ n2_ n3_ n4_ n5_ n6_ n7_; clear hb hbox hg; have hnb4 := NB725_726.out; have hnc4 := NB726_725.out; have hcz5_0 : w3.cell? ⟨gb725, 0, none⟩ = some (.bool a0_0) := (blk_cell BK725.out 0).trans rfl; have hcz5_1 : w3.cell? ⟨gb725, 1, none⟩ = some (.slice A0_1 l0_1.length c0_1) := (blk_cell BK725.out 1).trans rfl; have hcz5_2 : w3.cell? ⟨gb725, 2, none⟩ = some (.int .i64 a0_2) := (blk_cell BK725.out 2).trans rfl; have hfz5_0 := blk_frozen BK725.out 0; have hfz5_1 := blk_frozen BK725.out 1; have hfz5_2 := blk_frozen BK725.out 2; have hcz6_0 : w3.cell? ⟨gb726, 0, none⟩ = some (.bool false) := (blk_cell BK726.out 0).trans rfl; have hcz6_1 : w3.cell? ⟨gb726, 1, none⟩ = some (.slice none 0 0) := (blk_cell BK726.out 1).trans rfl; have hcz6_2 : w3.cell? ⟨gb726, 2, none⟩ = some (.int .i64 0) := (blk_cell BK726.out 2).trans rfl; have hfz6_0 := blk_frozen BK726.out 0; have hfz6_1 := blk_frozen BK726.out 1; have hfz6_2 := blk_frozen BK726.out 2))
 refine bodyPost_ret (results_cell_row rfl _ _ gb726 43 #[.bool false, .slice A0_1 l0_1.length c0_1, .int .i64 a0_2] (0, 0) _ rfl (by (with_reducible repeat (first | apply bN | apply bD | apply bA)); refine blk_put (cs := #[.bool false, .slice A0_1 l0_1.length c0_1, .int .i64 0]) ?_ 2 _ rfl; (with_reducible repeat (first | apply bN | apply bD | apply bA)); refine blk_put (cs := #[.bool false, .slice none 0 0, .int .i64 0]) ?_ 1 _ rfl; (with_reducible repeat (first | apply bN | apply bD | apply bA)); refine blk_put (cs := #[.bool false, .slice none 0 0, .int .i64 0]) ?_ 0 _ rfl; exact bk_ BK726) Try.underlying43 rfl (by kernel_rfl)) rfl ?_
 exact ⟨_, by first | rfl | (simp [errW_none, errW_some] <;> rfl) | (simp [*, errW_none, errW_some] <;> rfl), by (with_reducible repeat (first | apply Kd.V_alloc | apply Kd.V_drewN | apply Kd.V_drew)); exact Kd.V_mono (Kd.V_far (p := ⟨gb726, 2, none⟩) (Kd.V_far (p := ⟨gb726, 1, none⟩) (Kd.V_far (p := ⟨gb726, 0, none⟩) (Kd.V_mono HO0_1.out (fun k_ hk => (⟨hk, hk.2⟩ : _ ∧ k_ ≠ gb726))) (fun _ hk => hk.2) (.bool false)) (fun _ hk => hk.2) (.slice A0_1 l0_1.length c0_1)) (fun _ hk => hk.2) (.int .i64 a0_2)) (fun _ hk => hk.1.1.1), bl_ HB⟩

/-! ### l05_within: function 51 -/
def l05_within.f (k : Nat) (a0_0 : Bool) (l0_1 : List Int) (a0_2 : Int) (a1 : Int) : Option (Bool) := (l05_size.f a0_0 l0_1 a0_2).bind fun bt728 => ((r03_Cmp.f k bt728.1 bt728.2.1 bt728.2.2 false (([1] : List Int)) a1).bind fun t736 => (some (decide (t736 ≤ 0))))
theorem l05_within.mono : ∀ a0 a1 a2 a3 k, LeO (l05_within.f k a0 a1 a2 a3) (l05_within.f (k + 1) a0 a1 a2 a3) := by
 intro a0 a1 a2 a3 k
 unfold l05_within.f
 repeat' first
   | (with_reducible exact r03_Cmp.mono _ _ _ _ _ _ _)
   | (with_reducible exact LeO.refl _)
   | (with_reducible exact LeO.none _)
   | (with_reducible refine LeO.ite ?_ ?_)
   | (with_reducible refine LeO.bind ?_ (fun _ => ?_))
   | exact r03_Cmp.mono _ _ _ _ _ _ _
   | exact LeO.none _
   | refine LeO.ite ?_ ?_
   | refine LeO.bind ?_ (fun _ => ?_)
set_option maxHeartbeats 3000000 in
set_option maxRecDepth 100000 in
theorem l05_within.calls (k : Nat) (a0_0 : Bool) (A0_1 : Option Addr) (c0_1 : Nat) (l0_1 : List Int) (a0_2 : Int) (a1 : Int) (r : Bool) (w : World) (hr0_1 : Kd.C (Kd.int .u32) w A0_1 l0_1.length l0_1) (hc0_1 : l0_1.length ≤ c0_1) (h : l05_within.f k a0_0 l0_1 a0_2 a1 = some r) :
  Calls Try.prog 51 #[.agg #[.bool a0_0, .slice A0_1 l0_1.length c0_1, .int .i64 a0_2], .int .i64 a1] w fun e w' => e = .returned (.bool r) ∧ Below w.heap.size w w' := by
 have hu43 := Try.underlying43
 have HR0_1 := Aside0.mk hr0_1
 have HC0_1 := Aside0.mk hc0_1
 clear hr0_1 hc0_1
 have HB := Aside0.mk (Below.refl w.heap.size w)
 have H : ((l05_size.f a0_0 l0_1 a0_2).bind fun bt728 => ((r03_Cmp.f k bt728.1 bt728.2.1 bt728.2.2 false (([1] : List Int)) a1).bind fun t736 => (some (decide (t736 ≤ 0))))) = some r := h
 clear h
 obtain ⟨⟨t728, t729, t732⟩, A3, H⟩ := ob_ H
 try dsimp only at H
 obtain ⟨y733, hy733⟩ : ∃ y_ : List Int, y_ = (([1] : List Int)) := ⟨_, rfl⟩
 replace H : ((r03_Cmp.f k t728 t729 t732 false y733 a1).bind fun t736 => (some (decide (t736 ≤ 0)))) = some r := by first | (rw [hy733]; with_reducible exact H) | (have H2_ := (Option.bind_some _ _).symm.trans H; rw [hy733]; with_reducible exact H2_) | (have H2_ := (Option.bind_some _ _).symm.trans H; with_reducible exact H2_) | with_reducible exact H | (rw [hy733]; exact H) | exact H
 have Ny733 := Aside0.mk hy733
 clear hy733
 obtain ⟨t736, A4, H⟩ := ob_ H
 try dsimp only at H
 obtain rfl := Option.some.inj H
 go_enter Try.func51, Try.ntmps51
 go_wp2_with (first | ((with_reducible refine gate_dst (N := 2) rfl ?_); refine box_event ?hg (N := 2) ?hd (cs := #[.bool a0_0, .slice A0_1 l0_1.length c0_1, .int .i64 a0_2]) (t := 43) ?hr ?_; (case hd => rfl); (case hg => rfl); (case hr => first | (go_simp; done) | (go_simp; rfl)); intro gb727 hg w5 hbox hb; have n0_ := bs_ HB hb; have n1_ := Aside0.mk (hbox); have n2_ := ge_ HB hg; have n3_ := ge_ HB hg; clear HB; have HB := n0_; have BK727 := n1_; have GW727 := n2_; have GE727 := n3_; clear n0_ n1_ n2_ n3_; clear hb hbox hg; have hcz6_0 : w5.cell? ⟨gb727, 0, none⟩ = some (.bool a0_0) := (blk_cell BK727.out 0).trans rfl; have hcz6_1 : w5.cell? ⟨gb727, 1, none⟩ = some (.slice A0_1 l0_1.length c0_1) := (blk_cell BK727.out 1).trans rfl; have hcz6_2 : w5.cell? ⟨gb727, 2, none⟩ = some (.int .i64 a0_2) := (blk_cell BK727.out 2).trans rfl; have hfz6_0 := blk_frozen BK727.out 0; have hfz6_1 := blk_frozen BK727.out 1; have hfz6_2 := blk_frozen BK727.out 2) | ((with_reducible refine gate_callee (f := 54) rfl ?_); refine goesM (some 6) Try.func54 #[.agg #[.bool a0_0, .slice A0_1 l0_1.length c0_1, .int .i64 a0_2]] ?_; (with_reducible refine (l05_size.calls a0_0 (fun k_ => k_ < w.heap.size) _ _ l0_1 a0_2 t728 t729 t732 _ ?side1 A3.out).mono ?_); (case side1 => exact Kd.V_mk HC0_1.out (Kd.F_below (Kd.C_F (Kd.heap_int .u32) HR0_1.out) (bl_ HB))); rintro e w7 ⟨v730, rfl, ho0, hb⟩; refine ⟨_, rfl, ?_⟩; have n0_ := Aside0.mk (Kd.V_lower (Kd.V_mono (ok' := fun k_ => k_ ≠ gb727) ho0 (fun k_ hk_ => Or.elim hk_ (fun hs_ => fun e_ => Nat.not_le.2 hs_ (by rw [e_]; exact GW727.out)) (fun hn_ => (Kd.freshB (g := gb727) (o := .cells #[.bool a0_0, .slice A0_1 l0_1.length c0_1, .int .i64 a0_2] 43 (0, 0)) (bk_ BK727) k_ hn_)))) (below_size (bl_ HB))); have n1_ := kb_ BK727 hb; have n2_ := bs_ HB hb; clear BK727; clear HB; have HO731 := n0_; have BK727 := n1_; have HB := n2_; clear n0_ n1_ n2_; (try clear hb); (try clear hb2); (try clear hk); (try clear hi); (try clear ho0)) | ((with_reducible refine gate_dst (N := 7) rfl ?_); refine Kd.R_lit (Kd.int .u32) _ 72 ?hg (N := 7) ?hd (xs := ([1] : List Int)) (inner := [.int .u32 1]) (ok := fun _ => True) (okp := fun _ => True) ?hr ?hp (fun _ hk => hk) trivial (Below.refl _ _) (Nat.le_refl _) (by simp) ?_; (case hd => rfl); (case hg => rfl); (case hr => first | (go_simp; done) | (go_simp; rfl)); (case hp => exact (Reps.one (show Kd.M (Kd.int .u32) _ _ _ 1 [.int .u32 1] from rfl) (Reps.none _ _))); intro v734 w8 ho9 hb hg_ hnew_; clear hg_ hnew_; (first | rw [← Ny733.out] at ho9 | (simp only [Int.reduceToNat] at ho9; rw [← Ny733.out] at ho9)); have n0_ := Aside0.mk (Kd.V_elder' (by (with_reducible repeat (first | apply Kd.V_alloc | apply Kd.V_drewN | apply Kd.V_drew)); exact HO731.out) (Kd.R_base ho9) hb); have n1_ := Aside0.mk (Kd.R_lower ho9 (below_size (bl_ HB))); have n2_ := kb_ BK727 hb; have n3_ := bs_ HB hb; clear HO731; clear BK727; clear HB; have HO731 := n0_; have HO735 := n1_; have BK727 := n2_; have HB := n3_; clear n0_ n1_ n2_ n3_; clear hb ho9; obtain ⟨Ao10, co10, eo10⟩ := Kd.R_slice HO735.out; subst eo10; obtain ⟨Ao11, co11, eo11⟩ := Kd.V_slice HO731.out; subst eo11) | ((with_reducible refine gate_callee (f := 53) rfl ?_); refine goesM (some 10) Try.func53 #[.agg #[.bool t728, .slice Ao11 t729.length co11, .int .i64 t732], .agg #[.bool false, .slice Ao10 y733.length co10, .int .i64 a1]] ?_; (with_reducible refine (r03_Cmp.calls k t728 _ _ t729 t732 false _ _ y733 a1 t736 _ ?side1 ?side2 ?side3 ?side4 A4.out).mono ?_); (case side1 => repeat (first | exact (Kd.V_reads' HO731.out).2.2 | (with_reducible first | apply cA | apply cN | apply cD))); (case side2 => exact (Kd.V_reads' HO731.out).2.1); (case side3 => repeat (first | exact (Kd.R_reads' HO735.out).2.2 | (with_reducible first | apply cA | apply cN | apply cD))); (case side4 => exact (Kd.R_reads' HO735.out).2.1); rintro e w12 ⟨rfl, hb⟩; refine ⟨_, rfl, ?_⟩; have n0_ := Aside0.mk (Kd.V_below (by (with_reducible repeat (first | apply Kd.V_alloc | apply Kd.V_drewN | apply Kd.V_drew)); exact HO731.out) hb); have n1_ := Aside0.mk (Kd.R_below (rr_ HO735) hb); have n2_ := kb_ BK727 hb; have n3_ := bs_ HB hb; clear HO731; clear HO735; clear BK727; clear HB; have HO731 := n0_; have HO735 := n1_; have BK727 := n2_; have HB := n3_; clear n0_ n1_ n2_ n3_; (try clear hb); (try clear hb2); (try clear hk); (try clear hi)))
 go_ret
 exact ⟨by first | rfl | (simp [errW_none, errW_some] <;> rfl) | (simp [*, errW_none, errW_some] <;> rfl), bl_ HB⟩

/-! ### l05_worth: function 34 -/
def l05_worth.f (k : Nat) (a0_0 : Nat) (a0_1 : Nat) : Option (Bool × List Int × Int × Bool) := (l05_finite.f k a0_0).bind fun bt739 => ((l05_finite.f k a0_1).bind fun bt746 => (if bt739.2.2.2 = true then (if bt746.2.2.2 = true then ((r03_Add.f k bt739.1 bt739.2.1 bt739.2.2.1 bt746.1 bt746.2.1 bt746.2.2.1).bind fun bt753 => (some (bt753.1, bt753.2.1, bt753.2.2.1, (bt753.2.2.2 == 0)))) else (some (false, ([] : List Int), 0, false))) else (some (false, ([] : List Int), 0, false))))
theorem l05_worth.mono : ∀ a0 a1 k, LeO (l05_worth.f k a0 a1) (l05_worth.f (k + 1) a0 a1) := by
 intro a0 a1 k
 unfold l05_worth.f
 repeat' first
   | (with_reducible exact l05_finite.mono _ _)
   | (with_reducible exact r03_Add.mono _ _ _ _ _ _ _)
   | (with_reducible exact LeO.refl _)
   | (with_reducible exact LeO.none _)
   | (with_reducible refine LeO.ite ?_ ?_)
   | (with_reducible refine LeO.bind ?_ (fun _ => ?_))
   | exact l05_finite.mono _ _
   | exact r03_Add.mono _ _ _ _ _ _ _
   | exact LeO.none _
   | refine LeO.ite ?_ ?_
   | refine LeO.bind ?_ (fun _ => ?_)
set_option maxHeartbeats 3000000 in
set_option maxRecDepth 100000 in
theorem l05_worth.calls (k : Nat) (a0_0 : Nat) (a0_1 : Nat) (r1 : Bool) (r2 : List Int) (r3 : Int) (r4 : Bool) (w : World) (h : l05_worth.f k a0_0 a0_1 = some (r1, r2, r3, r4)) :
  Calls Try.prog 34 #[.agg #[.float .f64 a0_0, .float .f64 a0_1]] w fun e w' => ∃ v1_ : Value, e = .returned (.tuple #[.agg #[.bool r1, v1_, .int .i64 r3], .bool r4]) ∧ Kd.R (Kd.int .u32) 72 w' w.heap.size (fun _ => True) v1_ r2 ∧ Below w.heap.size w w' := by
 have hu30 := Try.underlying30
 have hu43 := Try.underlying43
 have HB := Aside0.mk (Below.refl w.heap.size w)
 have H : ((l05_finite.f k a0_0).bind fun bt739 => ((l05_finite.f k a0_1).bind fun bt746 => (if bt739.2.2.2 = true then (if bt746.2.2.2 = true then ((r03_Add.f k bt739.1 bt739.2.1 bt739.2.2.1 bt746.1 bt746.2.1 bt746.2.2.1).bind fun bt753 => (some (bt753.1, bt753.2.1, bt753.2.2.1, (bt753.2.2.2 == 0)))) else (some (false, ([] : List Int), 0, false))) else (some (false, ([] : List Int), 0, false))))) = some (r1, r2, r3, r4) := h
 clear h
 obtain ⟨⟨t739, t740, t743, t744⟩, A2, H⟩ := ob_ H
 try dsimp only at H
 obtain ⟨⟨t746, t747, t750, t751⟩, A3, H⟩ := ob_ H
 try dsimp only at H
 by_cases c4 : t744 = true
 ·subst c4
  have H1 : (if t751 = true then ((r03_Add.f k t739 t740 t743 t746 t747 t750).bind fun bt753 => (some (bt753.1, bt753.2.1, bt753.2.2.1, (bt753.2.2.2 == 0)))) else (some (false, ([] : List Int), 0, false))) = some (r1, r2, r3, r4) := by rw [if_pos rfl] at H; exact H
  clear H
  have H := H1
  clear H1
  by_cases c5 : t751 = true
  ·subst c5
   have H1 : ((r03_Add.f k t739 t740 t743 t746 t747 t750).bind fun bt753 => (some (bt753.1, bt753.2.1, bt753.2.2.1, (bt753.2.2.2 == 0)))) = some (r1, r2, r3, r4) := by rw [if_pos rfl] at H; exact H
   clear H
   have H := H1
   clear H1
   obtain ⟨⟨t753, t754, t757, t758⟩, A6, H⟩ := ob_ H
   try dsimp only at H
   simp only [Option.some.injEq, Prod.mk.injEq] at H
   obtain ⟨rfl, rfl, rfl, rfl⟩ := H
   go_enter Try.func34, Try.ntmps34
   go_wp2_with (first | ((with_reducible refine gate_dst (N := 1) rfl ?_); refine box_event ?hg (N := 1) ?hd (cs := #[.float .f64 a0_0, .float .f64 a0_1]) (t := 30) ?hr ?_; (case hd => rfl); (case hg => rfl); (case hr => first | (go_simp; done) | (go_simp; rfl)); intro gb737 hg w7 hbox hb; have n0_ := bs_ HB hb; have n1_ := Aside0.mk (hbox); have n2_ := ge_ HB hg; have n3_ := ge_ HB hg; clear HB; have HB := n0_; have BK737 := n1_; have GW737 := n2_; have GE737 := n3_; clear n0_ n1_ n2_ n3_; clear hb hbox hg) | ((with_reducible refine gate_dst (N := 2) rfl ?_); refine box_event ?hg (N := 2) ?hd (cs := #[.bool false, .slice none 0 0, .int .i64 0]) (t := 43) ?hr ?_; (case hd => rfl); (case hg => rfl); (case hr => first | (go_simp; done) | (go_simp; rfl)); intro gb738 hg w8 hbox hb; have n0_ := kb_ BK737 hb; have n1_ := bs_ HB hb; have n2_ := Aside0.mk (hbox); have n3_ := ge_ HB hg; have n4_ := ge_ HB hg; have n5_ := nlt_ BK737 hg; have n6_ := ngt_ BK737 hg; clear BK737; clear HB; have BK737 := n0_; have HB := n1_; have BK738 := n2_; have GW738 := n3_; have GE738 := n4_; have NB737_738 := n5_; have NB738_737 := n6_; clear n0_ n1_ n2_ n3_ n4_ n5_ n6_; clear hb hbox hg; have hnb9 := NB737_738.out; have hnc9 := NB738_737.out; have hcz10_0 : w8.cell? ⟨gb737, 0, none⟩ = some (.float .f64 a0_0) := (blk_cell BK737.out 0).trans rfl; have hcz10_1 : w8.cell? ⟨gb737, 1, none⟩ = some (.float .f64 a0_1) := (blk_cell BK737.out 1).trans rfl; have hfz10_0 := blk_frozen BK737.out 0; have hfz10_1 := blk_frozen BK737.out 1) | ((with_reducible refine gate_callee (f := 29) rfl ?_); refine goesM (some 13) Try.func29 #[.float .f64 a0_0] ?_; (with_reducible refine (l05_finite.calls k a0_0 t739 t740 t743 true _ A2.out).mono ?_); rintro e w11 ⟨v741, rfl, ho0, hb⟩; refine ⟨_, rfl, ?_⟩; have n0_ := Aside0.mk (Kd.R_lower ho0 (below_size (bl_ HB))); have n1_ := kb_ BK737 hb; have n2_ := kb_ BK738 hb; have n3_ := bs_ HB hb; clear BK737; clear BK738; clear HB; have HO742 := n0_; have BK737 := n1_; have BK738 := n2_; have HB := n3_; clear n0_ n1_ n2_ n3_; (try clear hb); (try clear hb2); (try clear hk); (try clear hi); (try clear ho0)) | ((with_reducible refine gate_dst (N := 4) rfl ?_); refine box_event ?hg (N := 4) ?hd (cs := #[.bool false, .slice none 0 0, .int .i64 0]) (t := 43) ?hr ?_; (case hd => rfl); (case hg => rfl); (case hr => first | (go_simp; done) | (go_simp; rfl)); intro gb745 hg w12 hbox hb; have n0_ := Aside0.mk (Kd.R_below (rr_ HO742) hb); have n1_ := kb_ BK737 hb; have n2_ := kb_ BK738 hb; have n3_ := bs_ HB hb; have n4_ := Aside0.mk (hbox); have n5_ := ge_ HB hg; have n6_ := ge_ HB hg; have n7_ := nlt_ BK737 hg; have n8_ := ngt_ BK737 hg; have n9_ := nlt_ BK738 hg; have n10_ := ngt_ BK738 hg; clear HO742; clear BK737; clear BK738; clear HB; have HO742 := n0_; have BK737 := n1_; have BK738 := n2_; have HB := n3_; have BK745 := n4_; have GW745 := n5_; have GE745 := n6_; have NB737_745 := n7_; have NB745_737 := n8_; have NB738_745 := n9_; have NB745_738 := n10_; clear n0_ n1_ n2_ n3_ n4_ n5_ n6_ n7_ n8_ n9_ n10_; clear hb hbox hg; have hnb13 := NB745_737.out; have hnc13 := NB737_745.out; have hnb14 := NB745_738.out; have hnc14 := NB738_745.out; have hcz15_0 : w12.cell? ⟨gb745, 0, none⟩ = some (.bool false) := (blk_cell BK745.out 0).trans rfl; have hcz15_1 : w12.cell? ⟨gb745, 1, none⟩ = some (.slice none 0 0) := (blk_cell BK745.out 1).trans rfl; have hcz15_2 : w12.cell? ⟨gb745, 2, none⟩ = some (.int .i64 0) := (blk_cell BK745.out 2).trans rfl; have hfz15_0 := blk_frozen BK745.out 0; have hfz15_1 := blk_frozen BK745.out 1; have hfz15_2 := blk_frozen BK745.out 2; obtain ⟨Ao16, co16, eo16⟩ := Kd.R_slice HO742.out; subst eo16; have hcz17_0 : w12.cell? ⟨gb737, 0, none⟩ = some (.float .f64 a0_0) := (blk_cell BK737.out 0).trans rfl; have hcz17_1 : w12.cell? ⟨gb737, 1, none⟩ = some (.float .f64 a0_1) := (blk_cell BK737.out 1).trans rfl; have hfz17_0 := blk_frozen BK737.out 0; have hfz17_1 := blk_frozen BK737.out 1) | ((with_reducible refine gate_callee (f := 29) rfl ?_); refine goesM (some 19) Try.func29 #[.float .f64 a0_1] ?_; (with_reducible refine (l05_finite.calls k a0_1 t746 t747 t750 true _ A3.out).mono ?_); rintro e w18 ⟨v748, rfl, ho0, hb⟩; refine ⟨_, rfl, ?_⟩; have n0_ := Aside0.mk (Kd.R_elder' (by (with_reducible repeat (first | apply rA | apply rN | apply rD)); exact (Kd.R_mono (Kd.R_far (p := ⟨gb745, 2, none⟩) (Kd.R_far (p := ⟨gb745, 1, none⟩) (Kd.R_far (p := ⟨gb745, 0, none⟩) (Kd.R_types HO742.out BK745.out (by decide)) (fun _ hk => hk.2) (.bool t739)) (fun _ hk => hk.2) (.slice Ao16 t740.length co16)) (fun _ hk => hk.2) (.int .i64 t743)) (fun _ h_ => h_.1))) (Kd.R_base ho0) hb); have n1_ := Aside0.mk (Kd.R_lower (Kd.R_new' ho0 (Kd.R_lt (by (with_reducible repeat (first | apply rA | apply rN | apply rD)); exact (Kd.R_mono (Kd.R_far (p := ⟨gb745, 2, none⟩) (Kd.R_far (p := ⟨gb745, 1, none⟩) (Kd.R_far (p := ⟨gb745, 0, none⟩) (Kd.R_types HO742.out BK745.out (by decide)) (fun _ hk => hk.2) (.bool t739)) (fun _ hk => hk.2) (.slice Ao16 t740.length co16)) (fun _ hk => hk.2) (.int .i64 t743)) (fun _ h_ => h_.1))))) (below_size (bl_ HB))); have n2_ := Aside0.mk (blk_below (g := gb737) (o := .cells #[.float .f64 a0_0, .float .f64 a0_1] 30 (0, 0)) (by (with_reducible repeat (first | apply bN | apply bD | apply bA)); refine blk_far ?_ NB737_745.out _; (with_reducible repeat (first | apply bN | apply bD | apply bA)); refine blk_far ?_ NB737_745.out _; (with_reducible repeat (first | apply bN | apply bD | apply bA)); refine blk_far ?_ NB737_745.out _; exact bk_ BK737) hb); have n3_ := Aside0.mk (blk_below (g := gb738) (o := .cells #[.bool false, .slice none 0 0, .int .i64 0] 43 (0, 0)) (by (with_reducible repeat (first | apply bN | apply bD | apply bA)); refine blk_far ?_ NB738_745.out _; (with_reducible repeat (first | apply bN | apply bD | apply bA)); refine blk_far ?_ NB738_745.out _; (with_reducible repeat (first | apply bN | apply bD | apply bA)); refine blk_far ?_ NB738_745.out _; exact bk_ BK738) hb); have n4_ := Aside0.mk (blk_below (g := gb745) (o := .cells #[.bool t739, .slice Ao16 t740.length co16, .int .i64 t743] 43 (0, 0)) (by (with_reducible repeat (first | apply bN | apply bD | apply bA)); refine blk_put (cs := #[.bool t739, .slice Ao16 t740.length co16, .int .i64 0]) ?_ 2 _ rfl; (with_reducible repeat (first | apply bN | apply bD | apply bA)); refine blk_put (cs := #[.bool t739, .slice none 0 0, .int .i64 0]) ?_ 1 _ rfl; (with_reducible repeat (first | apply bN | apply bD | apply bA)); refine blk_put (cs := #[.bool false, .slice none 0 0, .int .i64 0]) ?_ 0 _ rfl; exact bk_ BK745) hb); have n5_ := bs_ HB hb; clear HO742; clear BK737; clear BK738; clear BK745; clear HB; have HO742 := n0_; have HO749 := n1_; have BK737 := n2_; have BK738 := n3_; have BK745 := n4_; have HB := n5_; clear n0_ n1_ n2_ n3_ n4_ n5_; (try clear hb); (try clear hb2); (try clear hk); (try clear hi); (try clear ho0)) | ((with_reducible refine gate_dst (N := 6) rfl ?_); refine box_event ?hg (N := 6) ?hd (cs := #[.bool false, .slice none 0 0, .int .i64 0]) (t := 43) ?hr ?_; (case hd => rfl); (case hg => rfl); (case hr => first | (go_simp; done) | (go_simp; rfl)); intro gb752 hg w19 hbox hb; have n0_ := Aside0.mk (Kd.R_below (rr_ HO742) hb); have n1_ := Aside0.mk (Kd.R_below (rr_ HO749) hb); have n2_ := kb_ BK737 hb; have n3_ := kb_ BK738 hb; have n4_ := kb_ BK745 hb; have n5_ := bs_ HB hb; have n6_ := Aside0.mk (hbox); have n7_ := ge_ HB hg; have n8_ := ge_ HB hg; have n9_ := nlt_ BK737 hg; have n10_ := ngt_ BK737 hg; have n11_ := nlt_ BK738 hg; have n12_ := ngt_ BK738 hg; have n13_ := nlt_ BK745 hg; have n14_ := ngt_ BK745 hg; clear HO742; clear HO749; clear BK737; clear BK738; clear BK745; clear HB; have HO742 := n0_; have HO749 := n1_; have BK737 := n2_; have BK738 := n3_; have BK745 := n4_; have HB := n5_; have BK752 := n6_; have GW752 := n7_; have GE752 := n8_; have NB737_752 := n9_; have NB752_737 := n10_; have NB738_752 := n11_; have NB752_738 := n12_; have NB745_752 := n13_; have NB752_745 := n14_; clear n0_ n1_ n2_ n3_ n4_ n5_ n6_ n7_ n8_ n9_ n10_ n11_ n12_ n13_ n14_; clear hb hbox hg; have hnb20 := NB752_737.out; have hnc20 := NB737_752.out; have hnb21 := NB752_738.out; have hnc21 := NB738_752.out; have hnb22 := NB752_745.out; have hnc22 := NB745_752.out; have hcz23_0 : w19.cell? ⟨gb752, 0, none⟩ = some (.bool false) := (blk_cell BK752.out 0).trans rfl; have hcz23_1 : w19.cell? ⟨gb752, 1, none⟩ = some (.slice none 0 0) := (blk_cell BK752.out 1).trans rfl; have hcz23_2 : w19.cell? ⟨gb752, 2, none⟩ = some (.int .i64 0) := (blk_cell BK752.out 2).trans rfl; have hfz23_0 := blk_frozen BK752.out 0; have hfz23_1 := blk_frozen BK752.out 1; have hfz23_2 := blk_frozen BK752.out 2; obtain ⟨Ao24, co24, eo24⟩ := Kd.R_slice HO749.out; subst eo24; have hcz25_0 : w19.cell? ⟨gb745, 0, none⟩ = some (.bool t739) := (blk_cell BK745.out 0).trans rfl; have hcz25_1 : w19.cell? ⟨gb745, 1, none⟩ = some (.slice Ao16 t740.length co16) := (blk_cell BK745.out 1).trans rfl; have hcz25_2 : w19.cell? ⟨gb745, 2, none⟩ = some (.int .i64 t743) := (blk_cell BK745.out 2).trans rfl; have hfz25_0 := blk_frozen BK745.out 0; have hfz25_1 := blk_frozen BK745.out 1; have hfz25_2 := blk_frozen BK745.out 2) | ((with_reducible refine gate_callee (f := 35) rfl ?_); refine goesM (some 32) Try.func35 #[.agg #[.bool t739, .slice Ao16 t740.length co16, .int .i64 t743], .agg #[.bool t746, .slice Ao24 t747.length co24, .int .i64 t750]] ?_; (with_reducible refine (r03_Add.calls k t739 _ _ t740 t743 t746 _ _ t747 t750 t753 t754 t757 t758 _ ?side1 ?side2 ?side3 ?side4 A6.out).mono ?_); (case side1 => refine (Kd.R_reads' (e := 72) (base := w.heap.size) (ok := fun k_ => (True ∧ some k_ ≠ (.slice Ao24 t747.length co24 : Value).ownBlock)) (n := t740.length) (c := co16) ?_).2.2; exact (by (with_reducible repeat (first | apply rA | apply rN | apply rD)); exact (Kd.R_mono (Kd.R_far (p := ⟨gb752, 2, none⟩) (Kd.R_far (p := ⟨gb752, 1, none⟩) (Kd.R_far (p := ⟨gb752, 0, none⟩) (Kd.R_types HO742.out BK752.out (by decide)) (fun _ hk => hk.2) (.bool t746)) (fun _ hk => hk.2) (.slice Ao24 t747.length co24)) (fun _ hk => hk.2) (.int .i64 t750)) (fun _ h_ => h_.1)))); (case side2 => exact (Kd.R_reads' HO742.out).2.1); (case side3 => refine (Kd.R_reads' (e := 72) (base := w.heap.size) (ok := fun k_ => (True ∧ some k_ ≠ (.slice Ao16 t740.length co16 : Value).ownBlock)) (n := t747.length) (c := co24) ?_).2.2; exact (by (with_reducible repeat (first | apply rA | apply rN | apply rD)); exact (Kd.R_mono (Kd.R_far (p := ⟨gb752, 2, none⟩) (Kd.R_far (p := ⟨gb752, 1, none⟩) (Kd.R_far (p := ⟨gb752, 0, none⟩) (Kd.R_types HO749.out BK752.out (by decide)) (fun _ hk => hk.2) (.bool t746)) (fun _ hk => hk.2) (.slice Ao24 t747.length co24)) (fun _ hk => hk.2) (.int .i64 t750)) (fun _ h_ => h_.1)))); (case side4 => exact (Kd.R_reads' HO749.out).2.1); rintro e w26 ⟨v755, rfl, ho0, hb⟩; refine ⟨_, rfl, ?_⟩; have n0_ := Aside0.mk (Kd.R_elder' (by (with_reducible repeat (first | apply rA | apply rN | apply rD)); exact (Kd.R_mono (Kd.R_far (p := ⟨gb752, 2, none⟩) (Kd.R_far (p := ⟨gb752, 1, none⟩) (Kd.R_far (p := ⟨gb752, 0, none⟩) (Kd.R_types HO742.out BK752.out (by decide)) (fun _ hk => hk.2) (.bool t746)) (fun _ hk => hk.2) (.slice Ao24 t747.length co24)) (fun _ hk => hk.2) (.int .i64 t750)) (fun _ h_ => h_.1))) (Kd.R_base ho0) hb); have n1_ := Aside0.mk (Kd.R_elder' (by (with_reducible repeat (first | apply rA | apply rN | apply rD)); exact (Kd.R_mono (Kd.R_far (p := ⟨gb752, 2, none⟩) (Kd.R_far (p := ⟨gb752, 1, none⟩) (Kd.R_far (p := ⟨gb752, 0, none⟩) (Kd.R_types HO749.out BK752.out (by decide)) (fun _ hk => hk.2) (.bool t746)) (fun _ hk => hk.2) (.slice Ao24 t747.length co24)) (fun _ hk => hk.2) (.int .i64 t750)) (fun _ h_ => h_.1))) (Kd.R_base ho0) hb); have n2_ := Aside0.mk (Kd.R_lower (Kd.R_new' (Kd.R_new' ho0 (Kd.R_lt (by (with_reducible repeat (first | apply rA | apply rN | apply rD)); exact (Kd.R_mono (Kd.R_far (p := ⟨gb752, 2, none⟩) (Kd.R_far (p := ⟨gb752, 1, none⟩) (Kd.R_far (p := ⟨gb752, 0, none⟩) (Kd.R_types HO742.out BK752.out (by decide)) (fun _ hk => hk.2) (.bool t746)) (fun _ hk => hk.2) (.slice Ao24 t747.length co24)) (fun _ hk => hk.2) (.int .i64 t750)) (fun _ h_ => h_.1))))) (Kd.R_lt (by (with_reducible repeat (first | apply rA | apply rN | apply rD)); exact (Kd.R_mono (Kd.R_far (p := ⟨gb752, 2, none⟩) (Kd.R_far (p := ⟨gb752, 1, none⟩) (Kd.R_far (p := ⟨gb752, 0, none⟩) (Kd.R_types HO749.out BK752.out (by decide)) (fun _ hk => hk.2) (.bool t746)) (fun _ hk => hk.2) (.slice Ao24 t747.length co24)) (fun _ hk => hk.2) (.int .i64 t750)) (fun _ h_ => h_.1))))) (below_size (bl_ HB))); have n3_ := Aside0.mk (blk_below (g := gb737) (o := .cells #[.float .f64 a0_0, .float .f64 a0_1] 30 (0, 0)) (by (with_reducible repeat (first | apply bN | apply bD | apply bA)); refine blk_far ?_ NB737_752.out _; (with_reducible repeat (first | apply bN | apply bD | apply bA)); refine blk_far ?_ NB737_752.out _; (with_reducible repeat (first | apply bN | apply bD | apply bA)); refine blk_far ?_ NB737_752.out _; exact bk_ BK737) hb); have n4_ := Aside0.mk (blk_below (g := gb738) (o := .cells #[.bool false, .slice none 0 0, .int .i64 0] 43 (0, 0)) (by (with_reducible repeat (first | apply bN | apply bD | apply bA)); refine blk_far ?_ NB738_752.out _; (with_reducible repeat (first | apply bN | apply bD | apply bA)); refine blk_far ?_ NB738_752.out _; (with_reducible repeat (first | apply bN | apply bD | apply bA)); refine blk_far ?_ NB738_752.out _; exact bk_ BK738) hb); have n5_ := Aside0.mk (blk_below (g := gb745) (o := .cells #[.bool t739, .slice Ao16 t740.length co16, .int .i64 t743] 43 (0, 0)) (by (with_reducible repeat (first | apply bN | apply bD | apply bA)); refine blk_far ?_ NB745_752.out _; (with_reducible repeat (first | apply bN | apply bD | apply bA)); refine blk_far ?_ NB745_752.out _; (with_reducible repeat (first | apply bN | apply bD | apply bA)); refine blk_far ?_ NB745_752.out _; exact bk_ BK745) hb); have n6_ := Aside0.mk (blk_below (g := gb752) (o := .cells #[.bool t746, .slice Ao24 t747.length co24, .int .i64 t750] 43 (0, 0)) (by (with_reducible repeat (first | apply bN | apply bD | apply bA)); refine blk_put (cs := #[.bool t746, .slice Ao24 t747.length co24, .int .i64 0]) ?_ 2 _ rfl; (with_reducible repeat (first | apply bN | apply bD | apply bA)); refine blk_put (cs := #[.bool t746, .slice none 0 0, .int .i64 0]) ?_ 1 _ rfl; (with_reducible repeat (first | apply bN | apply bD | apply bA)); refine blk_put (cs := #[.bool false, .slice none 0 0, .int .i64 0]) ?_ 0 _ rfl; exact bk_ BK752) hb); have n7_ := bs_ HB hb; clear HO742; clear HO749; clear BK737; clear BK738; clear BK745; clear BK752; clear HB; have HO742 := n0_; have HO749 := n1_; have HO756 := n2_; have BK737 := n3_; have BK738 := n4_; have BK745 := n5_; have BK752 := n6_; have HB := n7_; clear n0_ n1_ n2_ n3_ n4_ n5_ n6_ n7_; (try clear hb); (try clear hb2); (try clear hk); (try clear hi); (try clear ho0)) | ((with_reducible refine gate_dst (N := 8) rfl ?_); refine box_event ?hg (N := 8) ?hd (cs := #[.bool false, .slice none 0 0, .int .i64 0]) (t := 43) ?hr ?_; (case hd => rfl); (case hg => rfl); (case hr => first | (go_simp; done) | (go_simp; rfl)); intro gb759 hg w27 hbox hb; have n0_ := Aside0.mk (Kd.R_below (rr_ HO742) hb); have n1_ := Aside0.mk (Kd.R_below (rr_ HO749) hb); have n2_ := Aside0.mk (Kd.R_below (rr_ HO756) hb); have n3_ := kb_ BK737 hb; have n4_ := kb_ BK738 hb; have n5_ := kb_ BK745 hb; have n6_ := kb_ BK752 hb; have n7_ := bs_ HB hb; have n8_ := Aside0.mk (hbox); have n9_ := ge_ HB hg; have n10_ := ge_ HB hg; have n11_ := nlt_ BK737 hg; have n12_ := ngt_ BK737 hg; have n13_ := nlt_ BK738 hg; have n14_ := ngt_ BK738 hg; have n15_ := nlt_ BK745 hg; have n16_ := ngt_ BK745 hg; have n17_ := nlt_ BK752 hg; have n18_ := ngt_ BK752 hg; clear HO742; clear HO749; clear HO756; clear BK737; clear BK738; clear BK745; clear BK752; clear HB; have HO742 := n0_; have HO749 := n1_; have HO756 := n2_; have BK737 := n3_; have BK738 := n4_; have BK745 := n5_; have BK752 := n6_; have HB := n7_; have BK759 := n8_; have GW759 := n9_; have GE759 := n10_; have NB737_759 := n11_; have NB759_737 := n12_; have NB738_759 := n13_; have NB759_738 := n14_; have NB745_759 := n15_; have NB759_745 := n16_; have NB752_759 := n17_; have NB759_752 := n18_; clear n0_ n1_ n2_ n3_ n4_ n5_ n6_ n7_ n8_ n9_ n10_ n11_ n12_ n13_ n14_ n15_ n16_ n17_ n18_; clear hb hbox hg; have hnb28 := NB759_737.out; have hnc28 := NB737_759.out; have hnb29 := NB759_738.out; have hnc29 := NB738_759.out; have hnb30 := NB759_745.out; have hnc30 := NB745_759.out; have hnb31 := NB759_752.out; have hnc31 := NB752_759.out; have hcz32_0 : w27.cell? ⟨gb759, 0, none⟩ = some (.bool false) := (blk_cell BK759.out 0).trans rfl; have hcz32_1 : w27.cell? ⟨gb759, 1, none⟩ = some (.slice none 0 0) := (blk_cell BK759.out 1).trans rfl; have hcz32_2 : w27.cell? ⟨gb759, 2, none⟩ = some (.int .i64 0) := (blk_cell BK759.out 2).trans rfl; have hfz32_0 := blk_frozen BK759.out 0; have hfz32_1 := blk_frozen BK759.out 1; have hfz32_2 := blk_frozen BK759.out 2; obtain ⟨Ao33, co33, eo33⟩ := Kd.R_slice HO756.out; subst eo33; have hcz34_0 : w27.cell? ⟨gb738, 0, none⟩ = some (.bool false) := (blk_cell BK738.out 0).trans rfl; have hcz34_1 : w27.cell? ⟨gb738, 1, none⟩ = some (.slice none 0 0) := (blk_cell BK738.out 1).trans rfl; have hcz34_2 : w27.cell? ⟨gb738, 2, none⟩ = some (.int .i64 0) := (blk_cell BK738.out 2).trans rfl; have hfz34_0 := blk_frozen BK738.out 0; have hfz34_1 := blk_frozen BK738.out 1; have hfz34_2 := blk_frozen BK738.out 2))
   refine bodyPost_ret (results_ct rfl _ _ gb738 43 #[.bool t753, .slice Ao33 t754.length co33, .int .i64 t757] (0, 0) _ rfl (by (with_reducible repeat (first | apply bN | apply bD | apply bA)); refine blk_put (cs := #[.bool t753, .slice Ao33 t754.length co33, .int .i64 0]) ?_ 2 _ rfl; (with_reducible repeat (first | apply bN | apply bD | apply bA)); refine blk_put (cs := #[.bool t753, .slice none 0 0, .int .i64 0]) ?_ 1 _ rfl; (with_reducible repeat (first | apply bN | apply bD | apply bA)); refine blk_put (cs := #[.bool false, .slice none 0 0, .int .i64 0]) ?_ 0 _ rfl; (with_reducible repeat (first | apply bN | apply bD | apply bA)); refine blk_far ?_ NB738_759.out _; (with_reducible repeat (first | apply bN | apply bD | apply bA)); refine blk_far ?_ NB738_759.out _; (with_reducible repeat (first | apply bN | apply bD | apply bA)); refine blk_far ?_ NB738_759.out _; exact bk_ BK738) Try.underlying43 rfl (by kernel_rfl)) rfl ?_
   exact ⟨_, by first | rfl | (simp [errW_none, errW_some] <;> rfl) | (simp [*, errW_none, errW_some] <;> rfl), by (with_reducible repeat (first | apply rA | apply rN | apply rD)); exact Kd.R_mono (Kd.R_far (p := ⟨gb738, 2, none⟩) (Kd.R_far (p := ⟨gb738, 1, none⟩) (Kd.R_far (p := ⟨gb738, 0, none⟩) (Kd.R_far (p := ⟨gb759, 2, none⟩) (Kd.R_far (p := ⟨gb759, 1, none⟩) (Kd.R_far (p := ⟨gb759, 0, none⟩) (Kd.R_types (Kd.R_types HO756.out BK759.out (by decide)) BK738.out (by decide)) (fun _ hk => hk.1.2) (.bool t753)) (fun _ hk => hk.1.2) (.slice Ao33 t754.length co33)) (fun _ hk => hk.1.2) (.int .i64 t757)) (fun _ hk => hk.2) (.bool t753)) (fun _ hk => hk.2) (.slice Ao33 t754.length co33)) (fun _ hk => hk.2) (.int .i64 t757)) (fun _ hk => trivial), bl_ HB⟩
  ·replace c5 := Bool.eq_false_iff.mpr c5
   subst c5
   have H1 : (some (false, ([] : List Int), 0, false)) = some (r1, r2, r3, r4) := by rw [if_neg (show ¬ (false = true) by decide)] at H; exact H
   clear H
   have H := H1
   clear H1
   simp only [Option.some.injEq, Prod.mk.injEq] at H
   obtain ⟨rfl, rfl, rfl, rfl⟩ := H
   go_enter Try.func34, Try.ntmps34
   go_wp2_with (first | ((with_reducible refine gate_dst (N := 1) rfl ?_); refine box_event ?hg (N := 1) ?hd (cs := #[.float .f64 a0_0, .float .f64 a0_1]) (t := 30) ?hr ?_; (case hd => rfl); (case hg => rfl); (case hr => first | (go_simp; done) | (go_simp; rfl)); intro gb737 hg w35 hbox hb; have n0_ := bs_ HB hb; have n1_ := Aside0.mk (hbox); have n2_ := ge_ HB hg; have n3_ := ge_ HB hg; clear HB; have HB := n0_; have BK737 := n1_; have GW737 := n2_; have GE737 := n3_; clear n0_ n1_ n2_ n3_; clear hb hbox hg) | ((with_reducible refine gate_dst (N := 2) rfl ?_); refine box_event ?hg (N := 2) ?hd (cs := #[.bool false, .slice none 0 0, .int .i64 0]) (t := 43) ?hr ?_; (case hd => rfl); (case hg => rfl); (case hr => first | (go_simp; done) | (go_simp; rfl)); intro gb738 hg w36 hbox hb; have n0_ := kb_ BK737 hb; have n1_ := bs_ HB hb; have n2_ := Aside0.mk (hbox); have n3_ := ge_ HB hg; have n4_ := ge_ HB hg; have n5_ := nlt_ BK737 hg; have n6_ := ngt_ BK737 hg; clear BK737; clear HB; have BK737 := n0_; have HB := n1_; have BK738 := n2_; have GW738 := n3_; have GE738 := n4_; have NB737_738 := n5_; have NB738_737 := n6_; clear n0_ n1_ n2_ n3_ n4_ n5_ n6_; clear hb hbox hg; have hnb37 := NB737_738.out; have hnc37 := NB738_737.out; have hcz38_0 : w36.cell? ⟨gb737, 0, none⟩ = some (.float .f64 a0_0) := (blk_cell BK737.out 0).trans rfl; have hcz38_1 : w36.cell? ⟨gb737, 1, none⟩ = some (.float .f64 a0_1) := (blk_cell BK737.out 1).trans rfl; have hfz38_0 := blk_frozen BK737.out 0; have hfz38_1 := blk_frozen BK737.out 1) | ((with_reducible refine gate_callee (f := 29) rfl ?_); refine goesM (some 13) Try.func29 #[.float .f64 a0_0] ?_; (with_reducible refine (l05_finite.calls k a0_0 t739 t740 t743 true _ A2.out).mono ?_); rintro e w39 ⟨v741, rfl, ho0, hb⟩; refine ⟨_, rfl, ?_⟩; have n0_ := Aside0.mk (Kd.R_lower ho0 (below_size (bl_ HB))); have n1_ := kb_ BK737 hb; have n2_ := kb_ BK738 hb; have n3_ := bs_ HB hb; clear BK737; clear BK738; clear HB; have HO742 := n0_; have BK737 := n1_; have BK738 := n2_; have HB := n3_; clear n0_ n1_ n2_ n3_; (try clear hb); (try clear hb2); (try clear hk); (try clear hi); (try clear ho0)) | ((with_reducible refine gate_dst (N := 4) rfl ?_); refine box_event ?hg (N := 4) ?hd (cs := #[.bool false, .slice none 0 0, .int .i64 0]) (t := 43) ?hr ?_; (case hd => rfl); (case hg => rfl); (case hr => first | (go_simp; done) | (go_simp; rfl)); intro gb745 hg w40 hbox hb; have n0_ := Aside0.mk (Kd.R_below (rr_ HO742) hb); have n1_ := kb_ BK737 hb; have n2_ := kb_ BK738 hb; have n3_ := bs_ HB hb; have n4_ := Aside0.mk (hbox); have n5_ := ge_ HB hg; have n6_ := ge_ HB hg; have n7_ := nlt_ BK737 hg; have n8_ := ngt_ BK737 hg; have n9_ := nlt_ BK738 hg; have n10_ := ngt_ BK738 hg; clear HO742; clear BK737; clear BK738; clear HB; have HO742 := n0_; have BK737 := n1_; have BK738 := n2_; have HB := n3_; have BK745 := n4_; have GW745 := n5_; have GE745 := n6_; have NB737_745 := n7_; have NB745_737 := n8_; have NB738_745 := n9_; have NB745_738 := n10_; clear n0_ n1_ n2_ n3_ n4_ n5_ n6_ n7_ n8_ n9_ n10_; clear hb hbox hg; have hnb41 := NB745_737.out; have hnc41 := NB737_745.out; have hnb42 := NB745_738.out; have hnc42 := NB738_745.out; have hcz43_0 : w40.cell? ⟨gb745, 0, none⟩ = some (.bool false) := (blk_cell BK745.out 0).trans rfl; have hcz43_1 : w40.cell? ⟨gb745, 1, none⟩ = some (.slice none 0 0) := (blk_cell BK745.out 1).trans rfl; have hcz43_2 : w40.cell? ⟨gb745, 2, none⟩ = some (.int .i64 0) := (blk_cell BK745.out 2).trans rfl; have hfz43_0 := blk_frozen BK745.out 0; have hfz43_1 := blk_frozen BK745.out 1; have hfz43_2 := blk_frozen BK745.out 2; obtain ⟨Ao44, co44, eo44⟩ := Kd.R_slice HO742.out; subst eo44; have hcz45_0 : w40.cell? ⟨gb737, 0, none⟩ = some (.float .f64 a0_0) := (blk_cell BK737.out 0).trans rfl; have hcz45_1 : w40.cell? ⟨gb737, 1, none⟩ = some (.float .f64 a0_1) := (blk_cell BK737.out 1).trans rfl; have hfz45_0 := blk_frozen BK737.out 0; have hfz45_1 := blk_frozen BK737.out 1) | ((with_reducible refine gate_callee (f := 29) rfl ?_); refine goesM (some 19) Try.func29 #[.float .f64 a0_1] ?_; (with_reducible refine (l05_finite.calls k a0_1 t746 t747 t750 false _ A3.out).mono ?_); rintro e w46 ⟨v748, rfl, ho0, hb⟩; refine ⟨_, rfl, ?_⟩; have n0_ := Aside0.mk (Kd.R_elder' (by (with_reducible repeat (first | apply rA | apply rN | apply rD)); exact (Kd.R_mono (Kd.R_far (p := ⟨gb745, 2, none⟩) (Kd.R_far (p := ⟨gb745, 1, none⟩) (Kd.R_far (p := ⟨gb745, 0, none⟩) (Kd.R_types HO742.out BK745.out (by decide)) (fun _ hk => hk.2) (.bool t739)) (fun _ hk => hk.2) (.slice Ao44 t740.length co44)) (fun _ hk => hk.2) (.int .i64 t743)) (fun _ h_ => h_.1))) (Kd.R_base ho0) hb); have n1_ := Aside0.mk (Kd.R_lower (Kd.R_new' ho0 (Kd.R_lt (by (with_reducible repeat (first | apply rA | apply rN | apply rD)); exact (Kd.R_mono (Kd.R_far (p := ⟨gb745, 2, none⟩) (Kd.R_far (p := ⟨gb745, 1, none⟩) (Kd.R_far (p := ⟨gb745, 0, none⟩) (Kd.R_types HO742.out BK745.out (by decide)) (fun _ hk => hk.2) (.bool t739)) (fun _ hk => hk.2) (.slice Ao44 t740.length co44)) (fun _ hk => hk.2) (.int .i64 t743)) (fun _ h_ => h_.1))))) (below_size (bl_ HB))); have n2_ := Aside0.mk (blk_below (g := gb737) (o := .cells #[.float .f64 a0_0, .float .f64 a0_1] 30 (0, 0)) (by (with_reducible repeat (first | apply bN | apply bD | apply bA)); refine blk_far ?_ NB737_745.out _; (with_reducible repeat (first | apply bN | apply bD | apply bA)); refine blk_far ?_ NB737_745.out _; (with_reducible repeat (first | apply bN | apply bD | apply bA)); refine blk_far ?_ NB737_745.out _; exact bk_ BK737) hb); have n3_ := Aside0.mk (blk_below (g := gb738) (o := .cells #[.bool false, .slice none 0 0, .int .i64 0] 43 (0, 0)) (by (with_reducible repeat (first | apply bN | apply bD | apply bA)); refine blk_far ?_ NB738_745.out _; (with_reducible repeat (first | apply bN | apply bD | apply bA)); refine blk_far ?_ NB738_745.out _; (with_reducible repeat (first | apply bN | apply bD | apply bA)); refine blk_far ?_ NB738_745.out _; exact bk_ BK738) hb); have n4_ := Aside0.mk (blk_below (g := gb745) (o := .cells #[.bool t739, .slice Ao44 t740.length co44, .int .i64 t743] 43 (0, 0)) (by (with_reducible repeat (first | apply bN | apply bD | apply bA)); refine blk_put (cs := #[.bool t739, .slice Ao44 t740.length co44, .int .i64 0]) ?_ 2 _ rfl; (with_reducible repeat (first | apply bN | apply bD | apply bA)); refine blk_put (cs := #[.bool t739, .slice none 0 0, .int .i64 0]) ?_ 1 _ rfl; (with_reducible repeat (first | apply bN | apply bD | apply bA)); refine blk_put (cs := #[.bool false, .slice none 0 0, .int .i64 0]) ?_ 0 _ rfl; exact bk_ BK745) hb); have n5_ := bs_ HB hb; clear HO742; clear BK737; clear BK738; clear BK745; clear HB; have HO742 := n0_; have HO749 := n1_; have BK737 := n2_; have BK738 := n3_; have BK745 := n4_; have HB := n5_; clear n0_ n1_ n2_ n3_ n4_ n5_; (try clear hb); (try clear hb2); (try clear hk); (try clear hi); (try clear ho0)) | ((with_reducible refine gate_dst (N := 6) rfl ?_); refine box_event ?hg (N := 6) ?hd (cs := #[.bool false, .slice none 0 0, .int .i64 0]) (t := 43) ?hr ?_; (case hd => rfl); (case hg => rfl); (case hr => first | (go_simp; done) | (go_simp; rfl)); intro gb752 hg w47 hbox hb; have n0_ := Aside0.mk (Kd.R_below (rr_ HO742) hb); have n1_ := Aside0.mk (Kd.R_below (rr_ HO749) hb); have n2_ := kb_ BK737 hb; have n3_ := kb_ BK738 hb; have n4_ := kb_ BK745 hb; have n5_ := bs_ HB hb; have n6_ := Aside0.mk (hbox); have n7_ := ge_ HB hg; have n8_ := ge_ HB hg; have n9_ := nlt_ BK737 hg; have n10_ := ngt_ BK737 hg; have n11_ := nlt_ BK738 hg; have n12_ := ngt_ BK738 hg; have n13_ := nlt_ BK745 hg; have n14_ := ngt_ BK745 hg; clear HO742; clear HO749; clear BK737; clear BK738; clear BK745; clear HB; have HO742 := n0_; have HO749 := n1_; have BK737 := n2_; have BK738 := n3_; have BK745 := n4_; have HB := n5_; have BK752 := n6_; have GW752 := n7_; have GE752 := n8_; have NB737_752 := n9_; have NB752_737 := n10_; have NB738_752 := n11_; have NB752_738 := n12_; have NB745_752 := n13_; have NB752_745 := n14_; clear n0_ n1_ n2_ n3_ n4_ n5_ n6_ n7_ n8_ n9_ n10_ n11_ n12_ n13_ n14_; clear hb hbox hg; have hnb48 := NB752_737.out; have hnc48 := NB737_752.out; have hnb49 := NB752_738.out; have hnc49 := NB738_752.out; have hnb50 := NB752_745.out; have hnc50 := NB745_752.out; have hcz51_0 : w47.cell? ⟨gb752, 0, none⟩ = some (.bool false) := (blk_cell BK752.out 0).trans rfl; have hcz51_1 : w47.cell? ⟨gb752, 1, none⟩ = some (.slice none 0 0) := (blk_cell BK752.out 1).trans rfl; have hcz51_2 : w47.cell? ⟨gb752, 2, none⟩ = some (.int .i64 0) := (blk_cell BK752.out 2).trans rfl; have hfz51_0 := blk_frozen BK752.out 0; have hfz51_1 := blk_frozen BK752.out 1; have hfz51_2 := blk_frozen BK752.out 2; obtain ⟨Ao52, co52, eo52⟩ := Kd.R_slice HO749.out; subst eo52; have hcz53_0 : w47.cell? ⟨gb738, 0, none⟩ = some (.bool false) := (blk_cell BK738.out 0).trans rfl; have hcz53_1 : w47.cell? ⟨gb738, 1, none⟩ = some (.slice none 0 0) := (blk_cell BK738.out 1).trans rfl; have hcz53_2 : w47.cell? ⟨gb738, 2, none⟩ = some (.int .i64 0) := (blk_cell BK738.out 2).trans rfl; have hfz53_0 := blk_frozen BK738.out 0; have hfz53_1 := blk_frozen BK738.out 1; have hfz53_2 := blk_frozen BK738.out 2))
   refine bodyPost_ret (results_ct rfl _ _ gb738 43 #[.bool false, .slice none 0 0, .int .i64 0] (0, 0) _ rfl (by (with_reducible repeat (first | apply bN | apply bD | apply bA)); refine blk_put (cs := #[.bool false, .slice none 0 0, .int .i64 0]) ?_ 2 _ rfl; (with_reducible repeat (first | apply bN | apply bD | apply bA)); refine blk_put (cs := #[.bool false, .slice none 0 0, .int .i64 0]) ?_ 1 _ rfl; (with_reducible repeat (first | apply bN | apply bD | apply bA)); refine blk_put (cs := #[.bool false, .slice none 0 0, .int .i64 0]) ?_ 0 _ rfl; (with_reducible repeat (first | apply bN | apply bD | apply bA)); refine blk_far ?_ NB738_752.out _; (with_reducible repeat (first | apply bN | apply bD | apply bA)); refine blk_far ?_ NB738_752.out _; (with_reducible repeat (first | apply bN | apply bD | apply bA)); refine blk_far ?_ NB738_752.out _; exact bk_ BK738) Try.underlying43 rfl (by kernel_rfl)) rfl ?_
   exact ⟨_, by first | rfl | (simp [errW_none, errW_some] <;> rfl) | (simp [*, errW_none, errW_some] <;> rfl), by first | exact Kd.R_nil _ _ _ _ _ | exact Kd.N_nil _ _ _ _ _ | exact Kd.V_nil _ _ _ _ _ | exact Kd.Q_nil _ _ _ _ _ | exact Kd.S_nil _ _ _ _ _, bl_ HB⟩
 ·replace c4 := Bool.eq_false_iff.mpr c4
  subst c4
  have H1 : (some (false, ([] : List Int), 0, false)) = some (r1, r2, r3, r4) := by rw [if_neg (show ¬ (false = true) by decide)] at H; exact H
  clear H
  have H := H1
  clear H1
  simp only [Option.some.injEq, Prod.mk.injEq] at H
  obtain ⟨rfl, rfl, rfl, rfl⟩ := H
  go_enter Try.func34, Try.ntmps34
  go_wp2_with (first | ((with_reducible refine gate_dst (N := 1) rfl ?_); refine box_event ?hg (N := 1) ?hd (cs := #[.float .f64 a0_0, .float .f64 a0_1]) (t := 30) ?hr ?_; (case hd => rfl); (case hg => rfl); (case hr => first | (go_simp; done) | (go_simp; rfl)); intro gb737 hg w54 hbox hb; have n0_ := bs_ HB hb; have n1_ := Aside0.mk (hbox); have n2_ := ge_ HB hg; have n3_ := ge_ HB hg; clear HB; have HB := n0_; have BK737 := n1_; have GW737 := n2_; have GE737 := n3_; clear n0_ n1_ n2_ n3_; clear hb hbox hg) | ((with_reducible refine gate_dst (N := 2) rfl ?_); refine box_event ?hg (N := 2) ?hd (cs := #[.bool false, .slice none 0 0, .int .i64 0]) (t := 43) ?hr ?_; (case hd => rfl); (case hg => rfl); (case hr => first | (go_simp; done) | (go_simp; rfl)); intro gb738 hg w55 hbox hb; have n0_ := kb_ BK737 hb; have n1_ := bs_ HB hb; have n2_ := Aside0.mk (hbox); have n3_ := ge_ HB hg; have n4_ := ge_ HB hg; have n5_ := nlt_ BK737 hg; have n6_ := ngt_ BK737 hg; clear BK737; clear HB; have BK737 := n0_; have HB := n1_; have BK738 := n2_; have GW738 := n3_; have GE738 := n4_; have NB737_738 := n5_; have NB738_737 := n6_; clear n0_ n1_ n2_ n3_ n4_ n5_ n6_; clear hb hbox hg; have hnb56 := NB737_738.out; have hnc56 := NB738_737.out; have hcz57_0 : w55.cell? ⟨gb737, 0, none⟩ = some (.float .f64 a0_0) := (blk_cell BK737.out 0).trans rfl; have hcz57_1 : w55.cell? ⟨gb737, 1, none⟩ = some (.float .f64 a0_1) := (blk_cell BK737.out 1).trans rfl; have hfz57_0 := blk_frozen BK737.out 0; have hfz57_1 := blk_frozen BK737.out 1) | ((with_reducible refine gate_callee (f := 29) rfl ?_); refine goesM (some 13) Try.func29 #[.float .f64 a0_0] ?_; (with_reducible refine (l05_finite.calls k a0_0 t739 t740 t743 false _ A2.out).mono ?_); rintro e w58 ⟨v741, rfl, ho0, hb⟩; refine ⟨_, rfl, ?_⟩; have n0_ := Aside0.mk (Kd.R_lower ho0 (below_size (bl_ HB))); have n1_ := kb_ BK737 hb; have n2_ := kb_ BK738 hb; have n3_ := bs_ HB hb; clear BK737; clear BK738; clear HB; have HO742 := n0_; have BK737 := n1_; have BK738 := n2_; have HB := n3_; clear n0_ n1_ n2_ n3_; (try clear hb); (try clear hb2); (try clear hk); (try clear hi); (try clear ho0)) | ((with_reducible refine gate_dst (N := 4) rfl ?_); refine box_event ?hg (N := 4) ?hd (cs := #[.bool false, .slice none 0 0, .int .i64 0]) (t := 43) ?hr ?_; (case hd => rfl); (case hg => rfl); (case hr => first | (go_simp; done) | (go_simp; rfl)); intro gb745 hg w59 hbox hb; have n0_ := Aside0.mk (Kd.R_below (rr_ HO742) hb); have n1_ := kb_ BK737 hb; have n2_ := kb_ BK738 hb; have n3_ := bs_ HB hb; have n4_ := Aside0.mk (hbox); have n5_ := ge_ HB hg; have n6_ := ge_ HB hg; have n7_ := nlt_ BK737 hg; have n8_ := ngt_ BK737 hg; have n9_ := nlt_ BK738 hg; have n10_ := ngt_ BK738 hg; clear HO742; clear BK737; clear BK738; clear HB; have HO742 := n0_; have BK737 := n1_; have BK738 := n2_; have HB := n3_; have BK745 := n4_; have GW745 := n5_; have GE745 := n6_; have NB737_745 := n7_; have NB745_737 := n8_; have NB738_745 := n9_; have NB745_738 := n10_; clear n0_ n1_ n2_ n3_ n4_ n5_ n6_ n7_ n8_ n9_ n10_; clear hb hbox hg; have hnb60 := NB745_737.out; have hnc60 := NB737_745.out; have hnb61 := NB745_738.out; have hnc61 := NB738_745.out; have hcz62_0 : w59.cell? ⟨gb745, 0, none⟩ = some (.bool false) := (blk_cell BK745.out 0).trans rfl; have hcz62_1 : w59.cell? ⟨gb745, 1, none⟩ = some (.slice none 0 0) := (blk_cell BK745.out 1).trans rfl; have hcz62_2 : w59.cell? ⟨gb745, 2, none⟩ = some (.int .i64 0) := (blk_cell BK745.out 2).trans rfl; have hfz62_0 := blk_frozen BK745.out 0; have hfz62_1 := blk_frozen BK745.out 1; have hfz62_2 := blk_frozen BK745.out 2; obtain ⟨Ao63, co63, eo63⟩ := Kd.R_slice HO742.out; subst eo63; have hcz64_0 : w59.cell? ⟨gb737, 0, none⟩ = some (.float .f64 a0_0) := (blk_cell BK737.out 0).trans rfl; have hcz64_1 : w59.cell? ⟨gb737, 1, none⟩ = some (.float .f64 a0_1) := (blk_cell BK737.out 1).trans rfl; have hfz64_0 := blk_frozen BK737.out 0; have hfz64_1 := blk_frozen BK737.out 1) | ((with_reducible refine gate_callee (f := 29) rfl ?_); refine goesM (some 19) Try.func29 #[.float .f64 a0_1] ?_; (with_reducible refine (l05_finite.calls k a0_1 t746 t747 t750 t751 _ A3.out).mono ?_); rintro e w65 ⟨v748, rfl, ho0, hb⟩; refine ⟨_, rfl, ?_⟩; have n0_ := Aside0.mk (Kd.R_elder' (by (with_reducible repeat (first | apply rA | apply rN | apply rD)); exact (Kd.R_mono (Kd.R_far (p := ⟨gb745, 2, none⟩) (Kd.R_far (p := ⟨gb745, 1, none⟩) (Kd.R_far (p := ⟨gb745, 0, none⟩) (Kd.R_types HO742.out BK745.out (by decide)) (fun _ hk => hk.2) (.bool t739)) (fun _ hk => hk.2) (.slice Ao63 t740.length co63)) (fun _ hk => hk.2) (.int .i64 t743)) (fun _ h_ => h_.1))) (Kd.R_base ho0) hb); have n1_ := Aside0.mk (Kd.R_lower (Kd.R_new' ho0 (Kd.R_lt (by (with_reducible repeat (first | apply rA | apply rN | apply rD)); exact (Kd.R_mono (Kd.R_far (p := ⟨gb745, 2, none⟩) (Kd.R_far (p := ⟨gb745, 1, none⟩) (Kd.R_far (p := ⟨gb745, 0, none⟩) (Kd.R_types HO742.out BK745.out (by decide)) (fun _ hk => hk.2) (.bool t739)) (fun _ hk => hk.2) (.slice Ao63 t740.length co63)) (fun _ hk => hk.2) (.int .i64 t743)) (fun _ h_ => h_.1))))) (below_size (bl_ HB))); have n2_ := Aside0.mk (blk_below (g := gb737) (o := .cells #[.float .f64 a0_0, .float .f64 a0_1] 30 (0, 0)) (by (with_reducible repeat (first | apply bN | apply bD | apply bA)); refine blk_far ?_ NB737_745.out _; (with_reducible repeat (first | apply bN | apply bD | apply bA)); refine blk_far ?_ NB737_745.out _; (with_reducible repeat (first | apply bN | apply bD | apply bA)); refine blk_far ?_ NB737_745.out _; exact bk_ BK737) hb); have n3_ := Aside0.mk (blk_below (g := gb738) (o := .cells #[.bool false, .slice none 0 0, .int .i64 0] 43 (0, 0)) (by (with_reducible repeat (first | apply bN | apply bD | apply bA)); refine blk_far ?_ NB738_745.out _; (with_reducible repeat (first | apply bN | apply bD | apply bA)); refine blk_far ?_ NB738_745.out _; (with_reducible repeat (first | apply bN | apply bD | apply bA)); refine blk_far ?_ NB738_745.out _; exact bk_ BK738) hb); have n4_ := Aside0.mk (blk_below (g := gb745) (o := .cells #[.bool t739, .slice Ao63 t740.length co63, .int .i64 t743] 43 (0, 0)) (by (with_reducible repeat (first | apply bN | apply bD | apply bA)); refine blk_put (cs := #[.bool t739, .slice Ao63 t740.length co63, .int .i64 0]) ?_ 2 _ rfl; (with_reducible repeat (first | apply bN | apply bD | apply bA)); refine blk_put (cs := #[.bool t739, .slice none 0 0, .int .i64 0]) ?_ 1 _ rfl; (with_reducible repeat (first | apply bN | apply bD | apply bA)); refine blk_put (cs := #[.bool false, .slice none 0 0, .int .i64 0]) ?_ 0 _ rfl; exact bk_ BK745) hb); have n5_ := bs_ HB hb; clear HO742; clear BK737; clear BK738; clear BK745; clear HB; have HO742 := n0_; have HO749 := n1_; have BK737 := n2_; have BK738 := n3_; have BK745 := n4_; have HB := n5_; clear n0_ n1_ n2_ n3_ n4_ n5_; (try clear hb); (try clear hb2); (try clear hk); (try clear hi); (try clear ho0)) | ((with_reducible refine gate_dst (N := 6) rfl ?_); refine box_event ?hg (N := 6) ?hd (cs := #[.bool false, .slice none 0 0, .int .i64 0]) (t := 43) ?hr ?_; (case hd => rfl); (case hg => rfl); (case hr => first | (go_simp; done) | (go_simp; rfl)); intro gb752 hg w66 hbox hb; have n0_ := Aside0.mk (Kd.R_below (rr_ HO742) hb); have n1_ := Aside0.mk (Kd.R_below (rr_ HO749) hb); have n2_ := kb_ BK737 hb; have n3_ := kb_ BK738 hb; have n4_ := kb_ BK745 hb; have n5_ := bs_ HB hb; have n6_ := Aside0.mk (hbox); have n7_ := ge_ HB hg; have n8_ := ge_ HB hg; have n9_ := nlt_ BK737 hg; have n10_ := ngt_ BK737 hg; have n11_ := nlt_ BK738 hg; have n12_ := ngt_ BK738 hg; have n13_ := nlt_ BK745 hg; have n14_ := ngt_ BK745 hg; clear HO742; clear HO749; clear BK737; clear BK738; clear BK745; clear HB; have HO742 := n0_; have HO749 := n1_; have BK737 := n2_; have BK738 := n3_; have BK745 := n4_; have HB := n5_; have BK752 := n6_; have GW752 := n7_; have GE752 := n8_; have NB737_752 := n9_; have NB752_737 := n10_; have NB738_752 := n11_; have NB752_738 := n12_; have NB745_752 := n13_; have NB752_745 := n14_; clear n0_ n1_ n2_ n3_ n4_ n5_ n6_ n7_ n8_ n9_ n10_ n11_ n12_ n13_ n14_; clear hb hbox hg; have hnb67 := NB752_737.out; have hnc67 := NB737_752.out; have hnb68 := NB752_738.out; have hnc68 := NB738_752.out; have hnb69 := NB752_745.out; have hnc69 := NB745_752.out; have hcz70_0 : w66.cell? ⟨gb752, 0, none⟩ = some (.bool false) := (blk_cell BK752.out 0).trans rfl; have hcz70_1 : w66.cell? ⟨gb752, 1, none⟩ = some (.slice none 0 0) := (blk_cell BK752.out 1).trans rfl; have hcz70_2 : w66.cell? ⟨gb752, 2, none⟩ = some (.int .i64 0) := (blk_cell BK752.out 2).trans rfl; have hfz70_0 := blk_frozen BK752.out 0; have hfz70_1 := blk_frozen BK752.out 1; have hfz70_2 := blk_frozen BK752.out 2; obtain ⟨Ao71, co71, eo71⟩ := Kd.R_slice HO749.out; subst eo71; have hcz72_0 : w66.cell? ⟨gb738, 0, none⟩ = some (.bool false) := (blk_cell BK738.out 0).trans rfl; have hcz72_1 : w66.cell? ⟨gb738, 1, none⟩ = some (.slice none 0 0) := (blk_cell BK738.out 1).trans rfl; have hcz72_2 : w66.cell? ⟨gb738, 2, none⟩ = some (.int .i64 0) := (blk_cell BK738.out 2).trans rfl; have hfz72_0 := blk_frozen BK738.out 0; have hfz72_1 := blk_frozen BK738.out 1; have hfz72_2 := blk_frozen BK738.out 2))
  refine bodyPost_ret (results_ct rfl _ _ gb738 43 #[.bool false, .slice none 0 0, .int .i64 0] (0, 0) _ rfl (by (with_reducible repeat (first | apply bN | apply bD | apply bA)); refine blk_put (cs := #[.bool false, .slice none 0 0, .int .i64 0]) ?_ 2 _ rfl; (with_reducible repeat (first | apply bN | apply bD | apply bA)); refine blk_put (cs := #[.bool false, .slice none 0 0, .int .i64 0]) ?_ 1 _ rfl; (with_reducible repeat (first | apply bN | apply bD | apply bA)); refine blk_put (cs := #[.bool false, .slice none 0 0, .int .i64 0]) ?_ 0 _ rfl; (with_reducible repeat (first | apply bN | apply bD | apply bA)); refine blk_far ?_ NB738_752.out _; (with_reducible repeat (first | apply bN | apply bD | apply bA)); refine blk_far ?_ NB738_752.out _; (with_reducible repeat (first | apply bN | apply bD | apply bA)); refine blk_far ?_ NB738_752.out _; exact bk_ BK738) Try.underlying43 rfl (by kernel_rfl)) rfl ?_
  exact ⟨_, by first | rfl | (simp [errW_none, errW_some] <;> rfl) | (simp [*, errW_none, errW_some] <;> rfl), by first | exact Kd.R_nil _ _ _ _ _ | exact Kd.N_nil _ _ _ _ _ | exact Kd.V_nil _ _ _ _ _ | exact Kd.Q_nil _ _ _ _ _ | exact Kd.S_nil _ _ _ _ _, bl_ HB⟩

end Go.Proofs.Ytdemanikmaafeaa.Pr
-- written by this session's own program (wip/fprint.py), which widens the kit's print by floats
namespace Go.Proofs.Ytdemanikmaafeaa.Pr
open Go.RowKit Go.Proofs.YtdemanikmaafeaaW.PrintWords Go.Proofs.YtdemanikmaafeaaW.PrintLast Go.Proofs.YtdemanikmaafeaaW.PrintMore
attribute [local go_sem] max2_int min2_int max_two min_two max_three min_three max_four min_four   -- for this text's walks alone
set_option linter.unusedVariables false
set_option linter.unusedSimpArgs false

/-! ### l05_just: function 52 -/
def l05_just.f (k : Nat) (a0_0 : Nat) (a0_1 : Nat) (a1_0 : Bool) (l1_1 : List Int) (a1_2 : Int) : Option (Bool) := (l05_worth.f k a0_0 a0_1).bind fun bt762 => (if bt762.2.2.2 = true then ((r03_Cmp.f k bt762.1 bt762.2.1 bt762.2.2.1 a1_0 l1_1 a1_2).bind fun t769 => (some (t769 == 0))) else (none))
theorem l05_just.mono : ∀ a0 a1 a2 a3 a4 k, LeO (l05_just.f k a0 a1 a2 a3 a4) (l05_just.f (k + 1) a0 a1 a2 a3 a4) := by
 intro a0 a1 a2 a3 a4 k
 unfold l05_just.f
 repeat' first
   | (with_reducible exact l05_worth.mono _ _ _)
   | (with_reducible exact r03_Cmp.mono _ _ _ _ _ _ _)
   | (with_reducible exact LeO.refl _)
   | (with_reducible exact LeO.none _)
   | (with_reducible refine LeO.ite ?_ ?_)
   | (with_reducible refine LeO.bind ?_ (fun _ => ?_))
   | exact l05_worth.mono _ _ _
   | exact r03_Cmp.mono _ _ _ _ _ _ _
   | exact LeO.none _
   | refine LeO.ite ?_ ?_
   | refine LeO.bind ?_ (fun _ => ?_)
set_option maxHeartbeats 3000000 in
set_option maxRecDepth 100000 in
theorem l05_just.calls (k : Nat) (a0_0 : Nat) (a0_1 : Nat) (a1_0 : Bool) (A1_1 : Option Addr) (c1_1 : Nat) (l1_1 : List Int) (a1_2 : Int) (r : Bool) (w : World) (hr1_1 : Kd.C (Kd.int .u32) w A1_1 l1_1.length l1_1) (hc1_1 : l1_1.length ≤ c1_1) (h : l05_just.f k a0_0 a0_1 a1_0 l1_1 a1_2 = some r) :
  Calls Try.prog 52 #[.agg #[.float .f64 a0_0, .float .f64 a0_1], .agg #[.bool a1_0, .slice A1_1 l1_1.length c1_1, .int .i64 a1_2]] w fun e w' => e = .returned (.bool r) ∧ Below w.heap.size w w' := by
 have hu30 := Try.underlying30
 have hu43 := Try.underlying43
 have HR1_1 := Aside0.mk hr1_1
 have HC1_1 := Aside0.mk hc1_1
 clear hr1_1 hc1_1
 have HB := Aside0.mk (Below.refl w.heap.size w)
 have H : ((l05_worth.f k a0_0 a0_1).bind fun bt762 => (if bt762.2.2.2 = true then ((r03_Cmp.f k bt762.1 bt762.2.1 bt762.2.2.1 a1_0 l1_1 a1_2).bind fun t769 => (some (t769 == 0))) else (none))) = some r := h
 clear h
 obtain ⟨⟨t762, t763, t766, t767⟩, A3, H⟩ := ob_ H
 try dsimp only at H
 by_cases c4 : t767 = true
 ·subst c4
  have H1 : ((r03_Cmp.f k t762 t763 t766 a1_0 l1_1 a1_2).bind fun t769 => (some (t769 == 0))) = some r := by rw [if_pos rfl] at H; exact H
  clear H
  have H := H1
  clear H1
  obtain ⟨t769, A5, H⟩ := ob_ H
  try dsimp only at H
  obtain rfl := Option.some.inj H
  go_enter Try.func52, Try.ntmps52
  go_wp2_with (first | ((with_reducible refine gate_dst (N := 2) rfl ?_); refine box_event ?hg (N := 2) ?hd (cs := #[.float .f64 a0_0, .float .f64 a0_1]) (t := 30) ?hr ?_; (case hd => rfl); (case hg => rfl); (case hr => first | (go_simp; done) | (go_simp; rfl)); intro gb760 hg w6 hbox hb; have n0_ := bs_ HB hb; have n1_ := Aside0.mk (hbox); have n2_ := ge_ HB hg; have n3_ := ge_ HB hg; clear HB; have HB := n0_; have BK760 := n1_; have GW760 := n2_; have GE760 := n3_; clear n0_ n1_ n2_ n3_; clear hb hbox hg) | ((with_reducible refine gate_dst (N := 3) rfl ?_); refine box_event ?hg (N := 3) ?hd (cs := #[.bool a1_0, .slice A1_1 l1_1.length c1_1, .int .i64 a1_2]) (t := 43) ?hr ?_; (case hd => rfl); (case hg => rfl); (case hr => first | (go_simp; done) | (go_simp; rfl)); intro gb761 hg w7 hbox hb; have n0_ := kb_ BK760 hb; have n1_ := bs_ HB hb; have n2_ := Aside0.mk (hbox); have n3_ := ge_ HB hg; have n4_ := ge_ HB hg; have n5_ := nlt_ BK760 hg; have n6_ := ngt_ BK760 hg; clear BK760; clear HB; have BK760 := n0_; have HB := n1_; have BK761 := n2_; have GW761 := n3_; have GE761 := n4_; have NB760_761 := n5_; have NB761_760 := n6_; clear n0_ n1_ n2_ n3_ n4_ n5_ n6_; clear hb hbox hg; have hnb8 := NB760_761.out; have hnc8 := NB761_760.out; have hcz9_0 : w7.cell? ⟨gb760, 0, none⟩ = some (.float .f64 a0_0) := (blk_cell BK760.out 0).trans rfl; have hcz9_1 : w7.cell? ⟨gb760, 1, none⟩ = some (.float .f64 a0_1) := (blk_cell BK760.out 1).trans rfl; have hfz9_0 := blk_frozen BK760.out 0; have hfz9_1 := blk_frozen BK760.out 1) | ((with_reducible refine gate_callee (f := 34) rfl ?_); refine goesM (some 9) Try.func34 #[.agg #[.float .f64 a0_0, .float .f64 a0_1]] ?_; (with_reducible refine (l05_worth.calls k a0_0 a0_1 t762 t763 t766 true _ A3.out).mono ?_); rintro e w10 ⟨v764, rfl, ho0, hb⟩; refine ⟨_, rfl, ?_⟩; have n0_ := Aside0.mk (Kd.R_lower ho0 (below_size (bl_ HB))); have n1_ := kb_ BK760 hb; have n2_ := kb_ BK761 hb; have n3_ := bs_ HB hb; clear BK760; clear BK761; clear HB; have HO765 := n0_; have BK760 := n1_; have BK761 := n2_; have HB := n3_; clear n0_ n1_ n2_ n3_; (try clear hb); (try clear hb2); (try clear hk); (try clear hi); (try clear ho0)) | ((with_reducible refine gate_dst (N := 5) rfl ?_); refine box_event ?hg (N := 5) ?hd (cs := #[.bool false, .slice none 0 0, .int .i64 0]) (t := 43) ?hr ?_; (case hd => rfl); (case hg => rfl); (case hr => first | (go_simp; done) | (go_simp; rfl)); intro gb768 hg w11 hbox hb; have n0_ := Aside0.mk (Kd.R_below (rr_ HO765) hb); have n1_ := kb_ BK760 hb; have n2_ := kb_ BK761 hb; have n3_ := bs_ HB hb; have n4_ := Aside0.mk (hbox); have n5_ := ge_ HB hg; have n6_ := ge_ HB hg; have n7_ := nlt_ BK760 hg; have n8_ := ngt_ BK760 hg; have n9_ := nlt_ BK761 hg; have n10_ := ngt_ BK761 hg; clear HO765; clear BK760; clear BK761; clear HB; have HO765 := n0_; have BK760 := n1_; have BK761 := n2_; have HB := n3_; have BK768 := n4_; have GW768 := n5_; have GE768 := n6_; have NB760_768 := n7_; have NB768_760 := n8_; have NB761_768 := n9_; have NB768_761 := n10_; clear n0_ n1_ n2_ n3_ n4_ n5_ n6_ n7_ n8_ n9_ n10_; clear hb hbox hg; have hnb12 := NB768_760.out; have hnc12 := NB760_768.out; have hnb13 := NB768_761.out; have hnc13 := NB761_768.out; have hcz14_0 : w11.cell? ⟨gb768, 0, none⟩ = some (.bool false) := (blk_cell BK768.out 0).trans rfl; have hcz14_1 : w11.cell? ⟨gb768, 1, none⟩ = some (.slice none 0 0) := (blk_cell BK768.out 1).trans rfl; have hcz14_2 : w11.cell? ⟨gb768, 2, none⟩ = some (.int .i64 0) := (blk_cell BK768.out 2).trans rfl; have hfz14_0 := blk_frozen BK768.out 0; have hfz14_1 := blk_frozen BK768.out 1; have hfz14_2 := blk_frozen BK768.out 2; obtain ⟨Ao15, co15, eo15⟩ := Kd.R_slice HO765.out; subst eo15; have hcz16_0 : w11.cell? ⟨gb761, 0, none⟩ = some (.bool a1_0) := (blk_cell BK761.out 0).trans rfl; have hcz16_1 : w11.cell? ⟨gb761, 1, none⟩ = some (.slice A1_1 l1_1.length c1_1) := (blk_cell BK761.out 1).trans rfl; have hcz16_2 : w11.cell? ⟨gb761, 2, none⟩ = some (.int .i64 a1_2) := (blk_cell BK761.out 2).trans rfl; have hfz16_0 := blk_frozen BK761.out 0; have hfz16_1 := blk_frozen BK761.out 1; have hfz16_2 := blk_frozen BK761.out 2) | (go_at_call 53; (with_reducible refine (r03_Cmp.calls k t762 _ _ t763 t766 a1_0 _ _ l1_1 a1_2 t769 _ ?side1 ?side2 ?side3 ?side4 A5.out).mono ?_); (case side1 => refine (Kd.R_reads' (e := 72) (base := w.heap.size) (ok := fun k_ => True) (n := t763.length) (c := co15) ?_).2.2; exact (by (with_reducible repeat (first | apply rA | apply rN | apply rD)); exact (Kd.R_mono (Kd.R_far (p := ⟨gb768, 2, none⟩) (Kd.R_far (p := ⟨gb768, 1, none⟩) (Kd.R_far (p := ⟨gb768, 0, none⟩) (Kd.R_types HO765.out BK768.out (by decide)) (fun _ hk => hk.2) (.bool t762)) (fun _ hk => hk.2) (.slice Ao15 t763.length co15)) (fun _ hk => hk.2) (.int .i64 t766)) (fun _ h_ => h_.1)))); (case side2 => exact (Kd.R_reads' HO765.out).2.1); (case side3 => exact Kd.C_below HR1_1.out (bl_ HB)); (case side4 => exact HC1_1.out); rintro e w17 ⟨rfl, hb⟩; have n0_ := Aside0.mk (Kd.R_below (by (with_reducible repeat (first | apply rA | apply rN | apply rD)); exact (Kd.R_mono (Kd.R_far (p := ⟨gb768, 2, none⟩) (Kd.R_far (p := ⟨gb768, 1, none⟩) (Kd.R_far (p := ⟨gb768, 0, none⟩) (Kd.R_types HO765.out BK768.out (by decide)) (fun _ hk => hk.2) (.bool t762)) (fun _ hk => hk.2) (.slice Ao15 t763.length co15)) (fun _ hk => hk.2) (.int .i64 t766)) (fun _ h_ => h_.1))) hb); have n1_ := Aside0.mk (blk_below (g := gb760) (o := .cells #[.float .f64 a0_0, .float .f64 a0_1] 30 (0, 0)) (by (with_reducible repeat (first | apply bN | apply bD | apply bA)); refine blk_far ?_ NB760_768.out _; (with_reducible repeat (first | apply bN | apply bD | apply bA)); refine blk_far ?_ NB760_768.out _; (with_reducible repeat (first | apply bN | apply bD | apply bA)); refine blk_far ?_ NB760_768.out _; exact bk_ BK760) hb); have n2_ := Aside0.mk (blk_below (g := gb761) (o := .cells #[.bool a1_0, .slice A1_1 l1_1.length c1_1, .int .i64 a1_2] 43 (0, 0)) (by (with_reducible repeat (first | apply bN | apply bD | apply bA)); refine blk_far ?_ NB761_768.out _; (with_reducible repeat (first | apply bN | apply bD | apply bA)); refine blk_far ?_ NB761_768.out _; (with_reducible repeat (first | apply bN | apply bD | apply bA)); refine blk_far ?_ NB761_768.out _; exact bk_ BK761) hb); have n3_ := Aside0.mk (blk_below (g := gb768) (o := .cells #[.bool t762, .slice Ao15 t763.length co15, .int .i64 t766] 43 (0, 0)) (by (with_reducible repeat (first | apply bN | apply bD | apply bA)); refine blk_put (cs := #[.bool t762, .slice Ao15 t763.length co15, .int .i64 0]) ?_ 2 _ rfl; (with_reducible repeat (first | apply bN | apply bD | apply bA)); refine blk_put (cs := #[.bool t762, .slice none 0 0, .int .i64 0]) ?_ 1 _ rfl; (with_reducible repeat (first | apply bN | apply bD | apply bA)); refine blk_put (cs := #[.bool false, .slice none 0 0, .int .i64 0]) ?_ 0 _ rfl; exact bk_ BK768) hb); have n4_ := bs_ HB hb; clear HO765; clear BK760; clear BK761; clear BK768; clear HB; have HO765 := n0_; have BK760 := n1_; have BK761 := n2_; have BK768 := n3_; have HB := n4_; clear n0_ n1_ n2_ n3_ n4_; (try clear hb); (try clear hb2); (try clear hk); (try clear hi)))
  go_ret
  exact ⟨by first | rfl | (simp [errW_none, errW_some] <;> rfl) | (simp [*, errW_none, errW_some] <;> rfl), bl_ HB⟩
 ·replace c4 := Bool.eq_false_iff.mpr c4
  subst c4
  have H1 : (none) = some r := by rw [if_neg (show ¬ (false = true) by decide)] at H; exact H
  clear H
  have H := H1
  clear H1
  exact absurd H (by simp)

end Go.Proofs.Ytdemanikmaafeaa.Pr
-- written by this session's own program (wip/fprint.py), which widens the kit's print by floats
namespace Go.Proofs.Ytdemanikmaafeaa.Pr
open Go.RowKit Go.Proofs.YtdemanikmaafeaaW.PrintWords Go.Proofs.YtdemanikmaafeaaW.PrintLast Go.Proofs.YtdemanikmaafeaaW.PrintMore
attribute [local go_sem] max2_int min2_int max_two min_two max_three min_three max_four min_four   -- for this text's walks alone
set_option linter.unusedVariables false
set_option linter.unusedSimpArgs false

/-! ### l05_sums: function 30 -/
def l05_sums.j0 : Nat → Nat → Nat → Bool → Bool → List Int → Int → Bool → List Int → Int → Option (Bool)
 | 0, _, _, _, _, _, _, _, _, _ => none
 | k + 1, x0, x1, x24, x771000, x771001, x771002, x772000, x772001, x772002 => if x24 = true then (some true) else ((r03_Add.f k x771000 x771001 x771002 x772000 x772001 x772002).bind fun bt774 => ((pair_Sum.f x0 x1).bind fun bt781 => ((l05_just.f k bt781.1 bt781.2 bt774.1 bt774.2.1 bt774.2.2.1).bind fun t783 => ((l05_size.f x771000 x771001 x771002).bind fun bt784 => ((l05_size.f x772000 x772001 x772002).bind fun bt789 => ((r03_Cmp.f k bt784.1 bt784.2.1 bt784.2.2 bt789.1 bt789.2.1 bt789.2.2).bind fun t794 => (if t794 ≥ 0 then ((pair_Quick.f x0 x1).bind fun bt795 => ((l05_just.f k bt795.1 bt795.2 bt774.1 bt774.2.1 bt774.2.2.1).bind fun t797 => (if t783 = true then (some t797) else (none)))) else (some t783))))))))
def l05_sums.f (k : Nat) (a0 : Nat) (a1 : Nat) (a2_0 : Bool) (l2_1 : List Int) (a2_2 : Int) (a3_0 : Bool) (l3_1 : List Int) (a3_2 : Int) : Option (Bool) := (l05_within.f k a2_0 l2_1 a2_2 1022).bind fun t772 => ((l05_within.f k a3_0 l3_1 a3_2 1022).bind fun t773 => (if t772 = true then (l05_sums.j0 k a0 a1 (!t773) a2_0 l2_1 a2_2 a3_0 l3_1 a3_2) else (l05_sums.j0 k a0 a1 true a2_0 l2_1 a2_2 a3_0 l3_1 a3_2)))
theorem l05_sums.mono_l : ∀ k, (∀ y0 y1 y2 y3 y4 y5 y6 y7 y8, LeO (l05_sums.j0 k y0 y1 y2 y3 y4 y5 y6 y7 y8) (l05_sums.j0 (k + 1) y0 y1 y2 y3 y4 y5 y6 y7 y8))
 | 0 => fun _ _ _ _ _ _ _ _ _ r h => by simp [l05_sums.j0] at h
 | k + 1 => by
  have ih0 := l05_sums.mono_l k
  ·intro y0 y1 y2 y3 y4 y5 y6 y7 y8
   unfold l05_sums.j0
   repeat' first
   | (with_reducible exact ih0 _ _ _ _ _ _ _ _ _)
   | (with_reducible exact l05_just.mono _ _ _ _ _ _)
   | (with_reducible exact l05_within.mono _ _ _ _ _)
   | (with_reducible exact r03_Add.mono _ _ _ _ _ _ _)
   | (with_reducible exact r03_Cmp.mono _ _ _ _ _ _ _)
   | (with_reducible exact LeO.refl _)
   | (with_reducible exact LeO.none _)
   | (with_reducible refine LeO.ite ?_ ?_)
   | (with_reducible refine LeO.bind ?_ (fun _ => ?_))
   | exact ih0 _ _ _ _ _ _ _ _ _
   | exact l05_just.mono _ _ _ _ _ _
   | exact l05_within.mono _ _ _ _ _
   | exact r03_Add.mono _ _ _ _ _ _ _
   | exact r03_Cmp.mono _ _ _ _ _ _ _
   | exact LeO.none _
   | refine LeO.ite ?_ ?_
   | refine LeO.bind ?_ (fun _ => ?_)
theorem l05_sums.mono : ∀ a0 a1 a2 a3 a4 a5 a6 a7 k, LeO (l05_sums.f k a0 a1 a2 a3 a4 a5 a6 a7) (l05_sums.f (k + 1) a0 a1 a2 a3 a4 a5 a6 a7) := by
 intro a0 a1 a2 a3 a4 a5 a6 a7 k
 have ih0 := l05_sums.mono_l k
 unfold l05_sums.f
 repeat' first
   | (with_reducible exact ih0 _ _ _ _ _ _ _ _ _)
   | (with_reducible exact l05_just.mono _ _ _ _ _ _)
   | (with_reducible exact l05_within.mono _ _ _ _ _)
   | (with_reducible exact r03_Add.mono _ _ _ _ _ _ _)
   | (with_reducible exact r03_Cmp.mono _ _ _ _ _ _ _)
   | (with_reducible exact LeO.refl _)
   | (with_reducible exact LeO.none _)
   | (with_reducible refine LeO.ite ?_ ?_)
   | (with_reducible refine LeO.bind ?_ (fun _ => ?_))
   | exact ih0 _ _ _ _ _ _ _ _ _
   | exact l05_just.mono _ _ _ _ _ _
   | exact l05_within.mono _ _ _ _ _
   | exact r03_Add.mono _ _ _ _ _ _ _
   | exact r03_Cmp.mono _ _ _ _ _ _ _
   | exact LeO.none _
   | refine LeO.ite ?_ ?_
   | refine LeO.bind ?_ (fun _ => ?_)
set_option maxHeartbeats 3000000 in
set_option maxRecDepth 100000 in
theorem l05_sums.calls (k : Nat) (a0 : Nat) (a1 : Nat) (a2_0 : Bool) (A2_1 : Option Addr) (c2_1 : Nat) (l2_1 : List Int) (a2_2 : Int) (a3_0 : Bool) (A3_1 : Option Addr) (c3_1 : Nat) (l3_1 : List Int) (a3_2 : Int) (r : Bool) (w : World) (hr2_1 : Kd.C (Kd.int .u32) w A2_1 l2_1.length l2_1) (hc2_1 : l2_1.length ≤ c2_1) (hr3_1 : Kd.C (Kd.int .u32) w A3_1 l3_1.length l3_1) (hc3_1 : l3_1.length ≤ c3_1) (h : l05_sums.f k a0 a1 a2_0 l2_1 a2_2 a3_0 l3_1 a3_2 = some r) :
  Calls Try.prog 30 #[.float .f64 a0, .float .f64 a1, .agg #[.bool a2_0, .slice A2_1 l2_1.length c2_1, .int .i64 a2_2], .agg #[.bool a3_0, .slice A3_1 l3_1.length c3_1, .int .i64 a3_2]] w fun e w' => e = .returned (.bool r) ∧ Below w.heap.size w w' := by
 have hu43 := Try.underlying43
 have HR2_1 := Aside0.mk hr2_1
 have HC2_1 := Aside0.mk hc2_1
 clear hr2_1 hc2_1
 have HR3_1 := Aside0.mk hr3_1
 have HC3_1 := Aside0.mk hc3_1
 clear hr3_1 hc3_1
 have HB := Aside0.mk (Below.refl w.heap.size w)
 have H : ((l05_within.f k a2_0 l2_1 a2_2 1022).bind fun t772 => ((l05_within.f k a3_0 l3_1 a3_2 1022).bind fun t773 => (if t772 = true then (l05_sums.j0 k a0 a1 (!t773) a2_0 l2_1 a2_2 a3_0 l3_1 a3_2) else (l05_sums.j0 k a0 a1 true a2_0 l2_1 a2_2 a3_0 l3_1 a3_2)))) = some r := h
 clear h
 obtain ⟨t772, A5, H⟩ := ob_ H
 try dsimp only at H
 obtain ⟨t773, A6, H⟩ := ob_ H
 try dsimp only at H
 have HC7 := Aside0.mk H
 clear H
 go_enter Try.func30, Try.ntmps30
 go_upto_region 3 with (first | ((with_reducible refine gate_dst (N := 6) rfl ?_); refine box_event ?hg (N := 6) ?hd (cs := #[.bool a2_0, .slice A2_1 l2_1.length c2_1, .int .i64 a2_2]) (t := 43) ?hr ?_; (case hd => rfl); (case hg => rfl); (case hr => first | (go_simp; done) | (go_simp; rfl)); intro gb770 hg w8 hbox hb; have n0_ := bs_ HB hb; have n1_ := Aside0.mk (hbox); have n2_ := ge_ HB hg; have n3_ := ge_ HB hg; clear HB; have HB := n0_; have BK770 := n1_; have GW770 := n2_; have GE770 := n3_; clear n0_ n1_ n2_ n3_; clear hb hbox hg) | ((with_reducible refine gate_dst (N := 7) rfl ?_); refine box_event ?hg (N := 7) ?hd (cs := #[.bool a3_0, .slice A3_1 l3_1.length c3_1, .int .i64 a3_2]) (t := 43) ?hr ?_; (case hd => rfl); (case hg => rfl); (case hr => first | (go_simp; done) | (go_simp; rfl)); intro gb771 hg w9 hbox hb; have n0_ := kb_ BK770 hb; have n1_ := bs_ HB hb; have n2_ := Aside0.mk (hbox); have n3_ := ge_ HB hg; have n4_ := ge_ HB hg; have n5_ := nlt_ BK770 hg; have n6_ := ngt_ BK770 hg; clear BK770; clear HB; have BK770 := n0_; have HB := n1_; have BK771 := n2_; have GW771 := n3_; have GE771 := n4_; have NB770_771 := n5_; have NB771_770 := n6_; clear n0_ n1_ n2_ n3_ n4_ n5_ n6_; clear hb hbox hg; have hnb10 := NB770_771.out; have hnc10 := NB771_770.out; have hcz11_0 : w9.cell? ⟨gb770, 0, none⟩ = some (.bool a2_0) := (blk_cell BK770.out 0).trans rfl; have hcz11_1 : w9.cell? ⟨gb770, 1, none⟩ = some (.slice A2_1 l2_1.length c2_1) := (blk_cell BK770.out 1).trans rfl; have hcz11_2 : w9.cell? ⟨gb770, 2, none⟩ = some (.int .i64 a2_2) := (blk_cell BK770.out 2).trans rfl; have hfz11_0 := blk_frozen BK770.out 0; have hfz11_1 := blk_frozen BK770.out 1; have hfz11_2 := blk_frozen BK770.out 2) | ((with_reducible refine gate_callee (f := 51) rfl ?_); refine goesM (some 16) Try.func51 #[.agg #[.bool a2_0, .slice A2_1 l2_1.length c2_1, .int .i64 a2_2], .int .i64 1022] ?_; (with_reducible refine (l05_within.calls k a2_0 _ _ l2_1 a2_2 1022 t772 _ ?side1 ?side2 A5.out).mono ?_); (case side1 => repeat (first | exact (Kd.C_below HR2_1.out HB.out) | (with_reducible first | apply cA | apply cN | apply cD))); (case side2 => exact HC2_1.out); rintro e w12 ⟨rfl, hb⟩; refine ⟨_, rfl, ?_⟩; have n0_ := kb_ BK770 hb; have n1_ := kb_ BK771 hb; have n2_ := bs_ HB hb; clear BK770; clear BK771; clear HB; have BK770 := n0_; have BK771 := n1_; have HB := n2_; clear n0_ n1_ n2_; (try clear hb); (try clear hb2); (try clear hk); (try clear hi); have hcz13_0 : w12.cell? ⟨gb771, 0, none⟩ = some (.bool a3_0) := (blk_cell BK771.out 0).trans rfl; have hcz13_1 : w12.cell? ⟨gb771, 1, none⟩ = some (.slice A3_1 l3_1.length c3_1) := (blk_cell BK771.out 1).trans rfl; have hcz13_2 : w12.cell? ⟨gb771, 2, none⟩ = some (.int .i64 a3_2) := (blk_cell BK771.out 2).trans rfl; have hfz13_0 := blk_frozen BK771.out 0; have hfz13_1 := blk_frozen BK771.out 1; have hfz13_2 := blk_frozen BK771.out 2) | ((with_reducible refine gate_callee (f := 51) rfl ?_); refine goesM (some 18) Try.func51 #[.agg #[.bool a3_0, .slice A3_1 l3_1.length c3_1, .int .i64 a3_2], .int .i64 1022] ?_; (with_reducible refine (l05_within.calls k a3_0 _ _ l3_1 a3_2 1022 t773 _ ?side1 ?side2 A6.out).mono ?_); (case side1 => repeat (first | exact (Kd.C_below HR3_1.out HB.out) | (with_reducible first | apply cA | apply cN | apply cD))); (case side2 => exact HC3_1.out); rintro e w14 ⟨rfl, hb⟩; refine ⟨_, rfl, ?_⟩; have n0_ := kb_ BK770 hb; have n1_ := kb_ BK771 hb; have n2_ := bs_ HB hb; clear BK770; clear BK771; clear HB; have BK770 := n0_; have BK771 := n1_; have HB := n2_; clear n0_ n1_ n2_; (try clear hb); (try clear hb2); (try clear hk); (try clear hi)))
 (try simp only [Act.put, List.setIfInBounds_toArray, List.set_cons_zero, List.set_cons_succ])
 go_cut [24] (fun v24 wc => ∃ (kq : Nat) (x24_6 : Bool), v24 = .bool x24_6 ∧ Aside0 (l05_sums.j0 kq a0 a1 x24_6 a2_0 l2_1 a2_2 a3_0 l3_1 a3_2 = some r) ∧ Aside0 (kq ≤ k) ∧ Aside0 (wc.heap[gb770]? = some (.cells #[.bool a2_0, (.slice A2_1 l2_1.length c2_1), .int .i64 a2_2] 43 (0, 0))) ∧ Aside0 (wc.heap[gb771]? = some (.cells #[.bool a3_0, (.slice A3_1 l3_1.length c3_1), .int .i64 a3_2] 43 (0, 0))) ∧ Aside0 (Below w.heap.size w wc))
 case first =>
  have H := HC7.out
  clear HC7
  by_cases c15 : t772 = true
  ·subst c15
   have H1 : (l05_sums.j0 k a0 a1 (!t773) a2_0 l2_1 a2_2 a3_0 l3_1 a3_2) = some r := by rw [if_pos rfl] at H; exact H
   clear H
   have H := H1
   clear H1
   have H' := Aside0.mk H
   clear H
   go_wp2
   go_meet
   case rel => exact ⟨_, (!t773), (by first | rfl | (simp; done) | (simp [*]; done)), H', ⟨by first | omega | exact Nat.le_refl _⟩, ⟨bk_ BK770⟩, ⟨bk_ BK771⟩, ⟨bl_ HB⟩⟩
  ·replace c15 := Bool.eq_false_iff.mpr c15
   subst c15
   have H1 : (l05_sums.j0 k a0 a1 true a2_0 l2_1 a2_2 a3_0 l3_1 a3_2) = some r := by rw [if_neg (show ¬ (false = true) by decide)] at H; exact H
   clear H
   have H := H1
   clear H1
   have H' := Aside0.mk H
   clear H
   go_wp2
   go_meet
   case rel => exact ⟨_, (true), (by first | rfl | (simp; done) | (simp [*]; done)), H', ⟨by first | omega | exact Nat.le_refl _⟩, ⟨bk_ BK770⟩, ⟨bk_ BK771⟩, ⟨bl_ HB⟩⟩
 case rest =>
  clear HC7
  try clear c1
  try clear c2
  try clear p2
  try clear c3
  try clear c5
  try clear c10
  try clear c15
  try clear hcz11_0
  try clear hcz11_1
  try clear hcz11_2
  try clear hcz13_0
  try clear hcz13_1
  try clear hcz13_2
  try clear hfz11_0
  try clear hfz11_1
  try clear hfz11_2
  try clear hfz13_0
  try clear hfz13_1
  try clear hfz13_2
  obtain ⟨kq, x24_6, rfl, HA, HJ6, BK770, BK771, HB⟩ := hcut
  cases kq with
  | zero => exact absurd HA.out (by simp [l05_sums.j0])
  | succ kj6 =>
   have H := HA.out
   clear HA
   simp only [l05_sums.j0] at H
   by_cases c16 : x24_6 = true
   ·subst c16
    have H1 : (some true) = some r := by rw [if_pos rfl] at H; exact H
    clear H
    have H := H1
    clear H1
    obtain rfl := Option.some.inj H
    go_wp2
    go_ret
    exact ⟨by first | rfl | (simp [errW_none, errW_some] <;> rfl) | (simp [*, errW_none, errW_some] <;> rfl), bl_ HB⟩
   ·replace c16 := Bool.eq_false_iff.mpr c16
    subst c16
    have H1 : ((r03_Add.f kj6 a2_0 l2_1 a2_2 a3_0 l3_1 a3_2).bind fun bt774 => ((pair_Sum.f a0 a1).bind fun bt781 => ((l05_just.f kj6 bt781.1 bt781.2 bt774.1 bt774.2.1 bt774.2.2.1).bind fun t783 => ((l05_size.f a2_0 l2_1 a2_2).bind fun bt784 => ((l05_size.f a3_0 l3_1 a3_2).bind fun bt789 => ((r03_Cmp.f kj6 bt784.1 bt784.2.1 bt784.2.2 bt789.1 bt789.2.1 bt789.2.2).bind fun t794 => (if t794 ≥ 0 then ((pair_Quick.f a0 a1).bind fun bt795 => ((l05_just.f kj6 bt795.1 bt795.2 bt774.1 bt774.2.1 bt774.2.2.1).bind fun t797 => (if t783 = true then (some t797) else (none)))) else (some t783)))))))) = some r := by rw [if_neg (show ¬ (false = true) by decide)] at H; exact H
    clear H
    have H := H1
    clear H1
    obtain ⟨⟨t774, t775, t778, t779⟩, A17, H⟩ := ob_ H
    try dsimp only at H
    obtain ⟨⟨t781, t782⟩, A18, H⟩ := ob_ H
    try dsimp only at H
    obtain ⟨t783, A19, H⟩ := ob_ H
    try dsimp only at H
    obtain ⟨⟨t784, t785, t788⟩, A20, H⟩ := ob_ H
    try dsimp only at H
    obtain ⟨⟨t789, t790, t793⟩, A21, H⟩ := ob_ H
    try dsimp only at H
    obtain ⟨t794, A22, H⟩ := ob_ H
    try dsimp only at H
    by_cases c23 : t794 ≥ 0
    ·rw [if_pos c23] at H
     have c23b0 : decide (0 ≤ t794) = true := decide_eq_true c23
     clear c23
     obtain ⟨⟨t795, t796⟩, A24, H⟩ := ob_ H
     try dsimp only at H
     obtain ⟨t797, A25, H⟩ := ob_ H
     try dsimp only at H
     by_cases c26 : t783 = true
     ·subst c26
      have H1 : (some t797) = some r := by rw [if_pos rfl] at H; exact H
      clear H
      have H := H1
      clear H1
      obtain rfl := Option.some.inj H
      have hnb27 := NB770_771.out
      have hnc27 := NB771_770.out
      have hcz28_0 : wc.cell? ⟨gb770, 0, none⟩ = some (.bool a2_0) := (blk_cell BK770.out 0).trans rfl
      have hcz28_1 : wc.cell? ⟨gb770, 1, none⟩ = some (.slice A2_1 l2_1.length c2_1) := (blk_cell BK770.out 1).trans rfl
      have hcz28_2 : wc.cell? ⟨gb770, 2, none⟩ = some (.int .i64 a2_2) := (blk_cell BK770.out 2).trans rfl
      have hfz28_0 := blk_frozen BK770.out 0
      have hfz28_1 := blk_frozen BK770.out 1
      have hfz28_2 := blk_frozen BK770.out 2
      have hcz29_0 : wc.cell? ⟨gb771, 0, none⟩ = some (.bool a3_0) := (blk_cell BK771.out 0).trans rfl
      have hcz29_1 : wc.cell? ⟨gb771, 1, none⟩ = some (.slice A3_1 l3_1.length c3_1) := (blk_cell BK771.out 1).trans rfl
      have hcz29_2 : wc.cell? ⟨gb771, 2, none⟩ = some (.int .i64 a3_2) := (blk_cell BK771.out 2).trans rfl
      have hfz29_0 := blk_frozen BK771.out 0
      have hfz29_1 := blk_frozen BK771.out 1
      have hfz29_2 := blk_frozen BK771.out 2
      try go_wp2_with (first | ((with_reducible refine gate_callee (f := 35) rfl ?_); refine goesM (some 28) Try.func35 #[.agg #[.bool a2_0, .slice A2_1 l2_1.length c2_1, .int .i64 a2_2], .agg #[.bool a3_0, .slice A3_1 l3_1.length c3_1, .int .i64 a3_2]] ?_; (with_reducible refine (r03_Add.calls kj6 a2_0 _ _ l2_1 a2_2 a3_0 _ _ l3_1 a3_2 t774 t775 t778 t779 _ ?side1 ?side2 ?side3 ?side4 A17.out).mono ?_); (case side1 => repeat (first | exact (Kd.C_below HR2_1.out HB.out) | (with_reducible first | apply cA | apply cN | apply cD))); (case side2 => exact HC2_1.out); (case side3 => repeat (first | exact (Kd.C_below HR3_1.out HB.out) | (with_reducible first | apply cA | apply cN | apply cD))); (case side4 => exact HC3_1.out); rintro e w30 ⟨v776, rfl, ho0, hb⟩; refine ⟨_, rfl, ?_⟩; have n0_ := Aside0.mk (Kd.R_lower ho0 (below_size (bl_ HB))); have n1_ := kb_ BK770 hb; have n2_ := kb_ BK771 hb; have n3_ := bs_ HB hb; clear BK770; clear BK771; clear HB; have HO777 := n0_; have BK770 := n1_; have BK771 := n2_; have HB := n3_; clear n0_ n1_ n2_ n3_; (try clear hb); (try clear hb2); (try clear hk); (try clear hi); (try clear ho0)) | ((with_reducible refine gate_dst (N := 11) rfl ?_); refine box_event ?hg (N := 11) ?hd (cs := #[.bool false, .slice none 0 0, .int .i64 0]) (t := 43) ?hr ?_; (case hd => rfl); (case hg => rfl); (case hr => first | (go_simp; done) | (go_simp; rfl)); intro gb780 hg w31 hbox hb; have n0_ := Aside0.mk (Kd.R_below (rr_ HO777) hb); have n1_ := kb_ BK770 hb; have n2_ := kb_ BK771 hb; have n3_ := bs_ HB hb; have n4_ := Aside0.mk (hbox); have n5_ := ge_ HB hg; have n6_ := ge_ HB hg; have n7_ := nlt_ BK770 hg; have n8_ := ngt_ BK770 hg; have n9_ := nlt_ BK771 hg; have n10_ := ngt_ BK771 hg; clear HO777; clear BK770; clear BK771; clear HB; have HO777 := n0_; have BK770 := n1_; have BK771 := n2_; have HB := n3_; have BK780 := n4_; have GW780 := n5_; have GE780 := n6_; have NB770_780 := n7_; have NB780_770 := n8_; have NB771_780 := n9_; have NB780_771 := n10_; clear n0_ n1_ n2_ n3_ n4_ n5_ n6_ n7_ n8_ n9_ n10_; clear hb hbox hg; have hnb32 := NB780_770.out; have hnc32 := NB770_780.out; have hnb33 := NB780_771.out; have hnc33 := NB771_780.out; have hcz34_0 : w31.cell? ⟨gb780, 0, none⟩ = some (.bool false) := (blk_cell BK780.out 0).trans rfl; have hcz34_1 : w31.cell? ⟨gb780, 1, none⟩ = some (.slice none 0 0) := (blk_cell BK780.out 1).trans rfl; have hcz34_2 : w31.cell? ⟨gb780, 2, none⟩ = some (.int .i64 0) := (blk_cell BK780.out 2).trans rfl; have hfz34_0 := blk_frozen BK780.out 0; have hfz34_1 := blk_frozen BK780.out 1; have hfz34_2 := blk_frozen BK780.out 2; obtain ⟨Ao35, co35, eo35⟩ := Kd.R_slice HO777.out; subst eo35))
      have n0_ : Aside0 (Kd.R (Kd.int .u32) 72 (((w31.setCell ⟨gb780, 0, none⟩ (.bool t774)).setCell ⟨gb780, 1, none⟩ (.slice Ao35 t775.length co35)).setCell ⟨gb780, 2, none⟩ (.int .i64 t778)) w.heap.size (fun _ => True) (.slice Ao35 t775.length co35) t775) := ⟨by (with_reducible repeat (first | apply rA | apply rN | apply rD)); exact Kd.R_mono (Kd.R_far (p := ⟨gb780, 2, none⟩) (Kd.R_far (p := ⟨gb780, 1, none⟩) (Kd.R_far (p := ⟨gb780, 0, none⟩) (Kd.R_types HO777.out BK780.out (by decide)) (fun _ hk => hk.2) (.bool t774)) (fun _ hk => hk.2) (.slice Ao35 t775.length co35)) (fun _ hk => hk.2) (.int .i64 t778)) (fun _ hk => trivial)⟩
      have n1_ : Aside0 ((((w31.setCell ⟨gb780, 0, none⟩ (.bool t774)).setCell ⟨gb780, 1, none⟩ (.slice Ao35 t775.length co35)).setCell ⟨gb780, 2, none⟩ (.int .i64 t778)).heap[gb770]? = some (.cells #[.bool a2_0, .slice A2_1 l2_1.length c2_1, .int .i64 a2_2] 43 (0, 0))) := ⟨by (with_reducible repeat (first | apply bN | apply bD | apply bA)); refine blk_far ?_ NB770_780.out _; (with_reducible repeat (first | apply bN | apply bD | apply bA)); refine blk_far ?_ NB770_780.out _; (with_reducible repeat (first | apply bN | apply bD | apply bA)); refine blk_far ?_ NB770_780.out _; exact bk_ BK770⟩
      have n2_ : Aside0 ((((w31.setCell ⟨gb780, 0, none⟩ (.bool t774)).setCell ⟨gb780, 1, none⟩ (.slice Ao35 t775.length co35)).setCell ⟨gb780, 2, none⟩ (.int .i64 t778)).heap[gb771]? = some (.cells #[.bool a3_0, .slice A3_1 l3_1.length c3_1, .int .i64 a3_2] 43 (0, 0))) := ⟨by (with_reducible repeat (first | apply bN | apply bD | apply bA)); refine blk_far ?_ NB771_780.out _; (with_reducible repeat (first | apply bN | apply bD | apply bA)); refine blk_far ?_ NB771_780.out _; (with_reducible repeat (first | apply bN | apply bD | apply bA)); refine blk_far ?_ NB771_780.out _; exact bk_ BK771⟩
      have n3_ : Aside0 ((((w31.setCell ⟨gb780, 0, none⟩ (.bool t774)).setCell ⟨gb780, 1, none⟩ (.slice Ao35 t775.length co35)).setCell ⟨gb780, 2, none⟩ (.int .i64 t778)).heap[gb780]? = some (.cells #[.bool t774, .slice Ao35 t775.length co35, .int .i64 t778] 43 (0, 0))) := ⟨by (with_reducible repeat (first | apply bN | apply bD | apply bA)); refine blk_put (cs := #[.bool t774, .slice Ao35 t775.length co35, .int .i64 0]) ?_ 2 _ rfl; (with_reducible repeat (first | apply bN | apply bD | apply bA)); refine blk_put (cs := #[.bool t774, .slice none 0 0, .int .i64 0]) ?_ 1 _ rfl; (with_reducible repeat (first | apply bN | apply bD | apply bA)); refine blk_put (cs := #[.bool false, .slice none 0 0, .int .i64 0]) ?_ 0 _ rfl; exact bk_ BK780⟩
      have n4_ : Aside0 (Below w.heap.size w (((w31.setCell ⟨gb780, 0, none⟩ (.bool t774)).setCell ⟨gb780, 1, none⟩ (.slice Ao35 t775.length co35)).setCell ⟨gb780, 2, none⟩ (.int .i64 t778))) := ⟨bl_ HB⟩
      (try clear HO777)
      (try clear BK770)
      (try clear BK771)
      (try clear BK780)
      (try clear HB)
      generalize (((w31.setCell ⟨gb780, 0, none⟩ (.bool t774)).setCell ⟨gb780, 1, none⟩ (.slice Ao35 t775.length co35)).setCell ⟨gb780, 2, none⟩ (.int .i64 t778)) = w36 at n0_ n1_ n2_ n3_ n4_ ⊢
      have HO777 := n0_
      have BK770 := n1_
      have BK771 := n2_
      have BK780 := n3_
      have HB := n4_
      clear n0_ n1_ n2_ n3_ n4_
      have n0_ := Aside0.mk (Kd.R_drew HO777.out)
      have n1_ := Aside0.mk (blk_drew BK770.out)
      have n2_ := Aside0.mk (blk_drew BK771.out)
      have n3_ := Aside0.mk (blk_drew BK780.out)
      have n4_ := Aside0.mk (below_drew1 HB.out)
      clear HO777
      clear BK770
      clear BK771
      clear BK780
      clear HB
      have HO777 := n0_
      have BK770 := n1_
      have BK771 := n2_
      have BK780 := n3_
      have HB := n4_
      clear n0_ n1_ n2_ n3_ n4_
      refine start_ (n := 6) (S := fun w' => w'.cell? ⟨gb780, 0, none⟩ = some (.bool t774) ∧ w'.cell? ⟨gb780, 1, none⟩ = some (.slice Ao35 t775.length co35) ∧ w'.cell? ⟨gb780, 2, none⟩ = some (.int .i64 t778)) (ds := []) #[false, false, false, false, false, false] (by kernel_rfl) rfl rfl ⟨(blk_cell BK780.out 0).trans rfl, (blk_cell BK780.out 1).trans rfl, (blk_cell BK780.out 2).trans rfl⟩ (fun hHeld => ?_)
      generalize w36.drew = w37 at HO777 BK770 BK771 BK780 HB hHeld ⊢
      refine pure_ (i := 0) (N := some 31) (v := ?_) (a' := ?_) #[true, false, false, false, false, false] rfl rfl (by kernel_rfl) (fun _ _ _ h => h) (Or.inl ⟨by rfl, ?_⟩) ?_ ?_
      rotate_left
      ·intro w'
       go_simp
       with_reducible rfl
      rotate_left
      ·simp only [Act.put, List.setIfInBounds_toArray, List.set_cons_zero, List.set_cons_succ, i64_w, i32_w]
       rfl
      refine pure_ (i := 1) (N := some 32) (v := ?_) (a' := ?_) #[true, true, false, false, false, false] rfl rfl (by kernel_rfl) (fun _ _ _ h => h) (Or.inl ⟨by rfl, ?_⟩) ?_ ?_
      rotate_left
      ·intro w'
       go_simp
       with_reducible rfl
      rotate_left
      ·simp only [Act.put, List.setIfInBounds_toArray, List.set_cons_zero, List.set_cons_succ, i64_w, i32_w]
       rfl
      refine take_ (i := 3) (N := some 34) (v := ?_) (a' := ?_) #[true, true, false, true, false, false] rfl rfl (by kernel_rfl) (fun _ _ _ h => h) (Or.inl ⟨by rfl, ?_⟩) hHeld ?_ ?_
      rotate_left
      ·rintro w' ⟨s0, s1, s2⟩
       go_simp
       with_reducible rfl
      rotate_left
      ·simp only [Act.put, List.setIfInBounds_toArray, List.set_cons_zero, List.set_cons_succ, i64_w, i32_w]
       rfl
      refine one_ (i := 2) (N := some 33) #[true, true, true, true, false, false] rfl rfl (by kernel_rfl) (by decide) (fun K hK => ?_)
      refine goes_ Try.func12 (by kernel_rfl) rfl #[.float .f64 a0, .float .f64 a1] (by rfl) rfl rfl (by (try simp only [List.map_toArray, List.map_cons, List.map_nil]); first | done | rfl | (simp only [List.length_drop, List.length_take]; rfl)) ?_
      with_reducible refine (pair_Sum.calls a0 a1 t781 t782 _ A18.out).mono ?_
      rintro e w38 ⟨rfl, hb⟩
      refine ⟨_, rfl, ?_⟩
      have n0_ := Aside0.mk (Kd.R_below (rr_ HO777) hb)
      have n1_ := kb_ BK770 hb
      have n2_ := kb_ BK771 hb
      have n3_ := kb_ BK780 hb
      have n4_ := bs_ HB hb
      clear HO777
      clear BK770
      clear BK771
      clear BK780
      clear HB
      have HO777 := n0_
      have BK770 := n1_
      have BK771 := n2_
      have BK780 := n3_
      have HB := n4_
      clear n0_ n1_ n2_ n3_ n4_
      (try clear hb)
      (try clear hb2)
      (try clear hk)
      (try clear hi)
      refine hK.out _ _ ⟨(blk_cell BK780.out 0).trans rfl, (blk_cell BK780.out 1).trans rfl, (blk_cell BK780.out 2).trans rfl⟩ (fun hHeld => ?_)
      clear hK K
      refine norm_ (a' := ?_) ?_ ?_
      rotate_left
      ·show Act.put _ (some 33) _ = _
       simp only [Act.put, List.setIfInBounds_toArray, List.set_cons_zero, List.set_cons_succ, i64_w, i32_w]
       rfl
      refine one_ (i := 4) (N := some 35) #[true, true, true, true, true, false] rfl rfl (by kernel_rfl) (by decide) (fun K hK => ?_)
      refine goes_ Try.func52 (by kernel_rfl) rfl #[.agg #[.float .f64 t781, .float .f64 t782], .agg #[.bool t774, .slice Ao35 t775.length co35, .int .i64 t778]] (by rfl) rfl rfl (by (try simp only [List.map_toArray, List.map_cons, List.map_nil]); first | done | rfl | (simp only [List.length_drop, List.length_take]; rfl)) ?_
      with_reducible refine (l05_just.calls kj6 t781 t782 t774 _ _ t775 t778 true _ ?side1 ?side2 A19.out).mono ?_
      (case side1 => repeat (first | exact (Kd.R_reads' HO777.out).2.2 | (with_reducible first | apply cA | apply cN | apply cD)))
      (case side2 => exact (Kd.R_reads' HO777.out).2.1)
      rintro e w39 ⟨rfl, hb⟩
      refine ⟨_, rfl, ?_⟩
      have n0_ := Aside0.mk (Kd.R_below (rr_ HO777) hb)
      have n1_ := kb_ BK770 hb
      have n2_ := kb_ BK771 hb
      have n3_ := kb_ BK780 hb
      have n4_ := bs_ HB hb
      clear HO777
      clear BK770
      clear BK771
      clear BK780
      clear HB
      have HO777 := n0_
      have BK770 := n1_
      have BK771 := n2_
      have BK780 := n3_
      have HB := n4_
      clear n0_ n1_ n2_ n3_ n4_
      (try clear hb)
      (try clear hb2)
      (try clear hk)
      (try clear hi)
      refine hK.out _ _ ⟨(blk_cell BK780.out 0).trans rfl, (blk_cell BK780.out 1).trans rfl, (blk_cell BK780.out 2).trans rfl⟩ (fun hHeld => ?_)
      clear hK K
      refine norm_ (a' := ?_) ?_ ?_
      rotate_left
      ·show Act.put _ (some 35) _ = _
       simp only [Act.put, List.setIfInBounds_toArray, List.set_cons_zero, List.set_cons_succ, i64_w, i32_w]
       rfl
      refine pure_ (i := 5) (N := some 13) (v := ?_) (a' := ?_) #[true, true, true, true, true, true] rfl rfl (by kernel_rfl) (fun _ _ _ h => h) (Or.inl ⟨by rfl, ?_⟩) ?_ ?_
      rotate_left
      ·intro w'
       go_simp
       with_reducible rfl
      rotate_left
      ·simp only [Act.put, List.setIfInBounds_toArray, List.set_cons_zero, List.set_cons_succ, i64_w, i32_w]
       rfl
      refine done_ (by kernel_rfl) ?_
      try go_wp2
      have n0_ := Aside0.mk (Kd.R_drew HO777.out)
      have n1_ := Aside0.mk (blk_drew BK770.out)
      have n2_ := Aside0.mk (blk_drew BK771.out)
      have n3_ := Aside0.mk (blk_drew BK780.out)
      have n4_ := Aside0.mk (below_drew1 HB.out)
      clear HO777
      clear BK770
      clear BK771
      clear BK780
      clear HB
      have HO777 := n0_
      have BK770 := n1_
      have BK771 := n2_
      have BK780 := n3_
      have HB := n4_
      clear n0_ n1_ n2_ n3_ n4_
      refine start_ (n := 6) (S := fun w' => w'.cell? ⟨gb770, 0, none⟩ = some (.bool a2_0) ∧ w'.cell? ⟨gb770, 1, none⟩ = some (.slice A2_1 l2_1.length c2_1) ∧ w'.cell? ⟨gb770, 2, none⟩ = some (.int .i64 a2_2) ∧ w'.cell? ⟨gb771, 0, none⟩ = some (.bool a3_0) ∧ w'.cell? ⟨gb771, 1, none⟩ = some (.slice A3_1 l3_1.length c3_1) ∧ w'.cell? ⟨gb771, 2, none⟩ = some (.int .i64 a3_2)) (ds := []) #[false, false, false, false, false, false] (by kernel_rfl) rfl rfl ⟨(blk_cell BK770.out 0).trans rfl, (blk_cell BK770.out 1).trans rfl, (blk_cell BK770.out 2).trans rfl, (blk_cell BK771.out 0).trans rfl, (blk_cell BK771.out 1).trans rfl, (blk_cell BK771.out 2).trans rfl⟩ (fun hHeld => ?_)
      generalize w39.drew = w40 at HO777 BK770 BK771 BK780 HB hHeld ⊢
      refine take_ (i := 0) (N := some 36) (v := ?_) (a' := ?_) #[true, false, false, false, false, false] rfl rfl (by kernel_rfl) (fun _ _ _ h => h) (Or.inl ⟨by rfl, ?_⟩) hHeld ?_ ?_
      rotate_left
      ·rintro w' ⟨s0, s1, s2, s3, s4, s5⟩
       go_simp
       with_reducible rfl
      rotate_left
      ·simp only [Act.put, List.setIfInBounds_toArray, List.set_cons_zero, List.set_cons_succ, i64_w, i32_w]
       rfl
      refine take_ (i := 2) (N := some 38) (v := ?_) (a' := ?_) #[true, false, true, false, false, false] rfl rfl (by kernel_rfl) (fun _ _ _ h => h) (Or.inl ⟨by rfl, ?_⟩) hHeld ?_ ?_
      rotate_left
      ·rintro w' ⟨s0, s1, s2, s3, s4, s5⟩
       go_simp
       with_reducible rfl
      rotate_left
      ·simp only [Act.put, List.setIfInBounds_toArray, List.set_cons_zero, List.set_cons_succ, i64_w, i32_w]
       rfl
      refine one_ (i := 1) (N := some 37) #[true, true, true, false, false, false] rfl rfl (by kernel_rfl) (by decide) (fun K hK => ?_)
      refine goes_ Try.func54 (by kernel_rfl) rfl #[.agg #[.bool a2_0, .slice A2_1 l2_1.length c2_1, .int .i64 a2_2]] (by rfl) rfl rfl (by (try simp only [List.map_toArray, List.map_cons, List.map_nil]); first | done | rfl | (simp only [List.length_drop, List.length_take]; rfl)) ?_
      with_reducible refine (l05_size.calls a2_0 (fun k_ => k_ < w.heap.size) _ _ l2_1 a2_2 t784 t785 t788 _ ?side1 A20.out).mono ?_
      (case side1 => exact Kd.V_mk HC2_1.out (Kd.F_below (Kd.C_F (Kd.heap_int .u32) HR2_1.out) (bl_ HB)))
      rintro e w41 ⟨v786, rfl, ho0, hb⟩
      refine ⟨_, rfl, ?_⟩
      have n0_ := Aside0.mk (Kd.R_below (rr_ HO777) hb)
      have n1_ := Aside0.mk (Kd.V_lower (Kd.V_mono (ok' := fun k_ => some k_ ≠ (.slice Ao35 t775.length co35 : Value).ownBlock ∧ k_ ≠ gb770 ∧ k_ ≠ gb771 ∧ k_ ≠ gb780) ho0 (fun k_ hk_ => ⟨Or.elim hk_ (fun hs_ => fun e_ => Nat.not_le.2 hs_ (Kd.R_base HO777.out k_ e_.symm)) (fun hn_ => (Kd.fresh' (Kd.R_lt (rr_ HO777)) k_ hn_)), Or.elim hk_ (fun hs_ => fun e_ => Nat.not_le.2 hs_ (by rw [e_]; exact GW770.out)) (fun hn_ => (Kd.freshB (g := gb770) (o := .cells #[.bool a2_0, .slice A2_1 l2_1.length c2_1, .int .i64 a2_2] 43 (0, 0)) (bk_ BK770) k_ hn_)), Or.elim hk_ (fun hs_ => fun e_ => Nat.not_le.2 hs_ (by rw [e_]; exact GW771.out)) (fun hn_ => (Kd.freshB (g := gb771) (o := .cells #[.bool a3_0, .slice A3_1 l3_1.length c3_1, .int .i64 a3_2] 43 (0, 0)) (bk_ BK771) k_ hn_)), Or.elim hk_ (fun hs_ => fun e_ => Nat.not_le.2 hs_ (by rw [e_]; exact GW780.out)) (fun hn_ => (Kd.freshB (g := gb780) (o := .cells #[.bool t774, .slice Ao35 t775.length co35, .int .i64 t778] 43 (0, 0)) (bk_ BK780) k_ hn_))⟩)) (below_size (bl_ HB)))
      have n2_ := kb_ BK770 hb
      have n3_ := kb_ BK771 hb
      have n4_ := kb_ BK780 hb
      have n5_ := bs_ HB hb
      clear HO777
      clear BK770
      clear BK771
      clear BK780
      clear HB
      have HO777 := n0_
      have HO787 := n1_
      have BK770 := n2_
      have BK771 := n3_
      have BK780 := n4_
      have HB := n5_
      clear n0_ n1_ n2_ n3_ n4_ n5_
      (try clear hb)
      (try clear hb2)
      (try clear hk)
      (try clear hi)
      (try clear ho0)
      refine hK.out _ _ ⟨(blk_cell BK770.out 0).trans rfl, (blk_cell BK770.out 1).trans rfl, (blk_cell BK770.out 2).trans rfl, (blk_cell BK771.out 0).trans rfl, (blk_cell BK771.out 1).trans rfl, (blk_cell BK771.out 2).trans rfl⟩ (fun hHeld => ?_)
      clear hK K
      refine norm_ (a' := ?_) ?_ ?_
      rotate_left
      ·show Act.put _ (some 37) _ = _
       simp only [Act.put, List.setIfInBounds_toArray, List.set_cons_zero, List.set_cons_succ, i64_w, i32_w]
       rfl
      refine one_ (i := 3) (N := some 39) #[true, true, true, true, false, false] rfl rfl (by kernel_rfl) (by decide) (fun K hK => ?_)
      refine goes_ Try.func54 (by kernel_rfl) rfl #[.agg #[.bool a3_0, .slice A3_1 l3_1.length c3_1, .int .i64 a3_2]] (by rfl) rfl rfl (by (try simp only [List.map_toArray, List.map_cons, List.map_nil]); first | done | rfl | (simp only [List.length_drop, List.length_take]; rfl)) ?_
      with_reducible refine (l05_size.calls a3_0 (fun k_ => k_ < w.heap.size) _ _ l3_1 a3_2 t789 t790 t793 _ ?side1 A21.out).mono ?_
      (case side1 => exact Kd.V_mk HC3_1.out (Kd.F_below (Kd.C_F (Kd.heap_int .u32) HR3_1.out) (bl_ HB)))
      rintro e w42 ⟨v791, rfl, ho0, hb⟩
      refine ⟨_, rfl, ?_⟩
      have n0_ := Aside0.mk (Kd.R_below (rr_ HO777) hb)
      have n1_ := Aside0.mk (Kd.V_below (by (with_reducible repeat (first | apply Kd.V_alloc | apply Kd.V_drewN | apply Kd.V_drew)); exact HO787.out) hb)
      have n2_ := Aside0.mk (Kd.V_lower (Kd.V_mono (ok' := fun k_ => some k_ ≠ (.slice Ao35 t775.length co35 : Value).ownBlock ∧ k_ ≠ gb770 ∧ k_ ≠ gb771 ∧ k_ ≠ gb780) ho0 (fun k_ hk_ => ⟨Or.elim hk_ (fun hs_ => fun e_ => Nat.not_le.2 hs_ (Kd.R_base HO777.out k_ e_.symm)) (fun hn_ => (Kd.fresh' (Kd.R_lt (rr_ HO777)) k_ hn_)), Or.elim hk_ (fun hs_ => fun e_ => Nat.not_le.2 hs_ (by rw [e_]; exact GW770.out)) (fun hn_ => (Kd.freshB (g := gb770) (o := .cells #[.bool a2_0, .slice A2_1 l2_1.length c2_1, .int .i64 a2_2] 43 (0, 0)) (bk_ BK770) k_ hn_)), Or.elim hk_ (fun hs_ => fun e_ => Nat.not_le.2 hs_ (by rw [e_]; exact GW771.out)) (fun hn_ => (Kd.freshB (g := gb771) (o := .cells #[.bool a3_0, .slice A3_1 l3_1.length c3_1, .int .i64 a3_2] 43 (0, 0)) (bk_ BK771) k_ hn_)), Or.elim hk_ (fun hs_ => fun e_ => Nat.not_le.2 hs_ (by rw [e_]; exact GW780.out)) (fun hn_ => (Kd.freshB (g := gb780) (o := .cells #[.bool t774, .slice Ao35 t775.length co35, .int .i64 t778] 43 (0, 0)) (bk_ BK780) k_ hn_))⟩)) (below_size (bl_ HB)))
      have n3_ := kb_ BK770 hb
      have n4_ := kb_ BK771 hb
      have n5_ := kb_ BK780 hb
      have n6_ := bs_ HB hb
      clear HO777
      clear HO787
      clear BK770
      clear BK771
      clear BK780
      clear HB
      have HO777 := n0_
      have HO787 := n1_
      have HO792 := n2_
      have BK770 := n3_
      have BK771 := n4_
      have BK780 := n5_
      have HB := n6_
      clear n0_ n1_ n2_ n3_ n4_ n5_ n6_
      (try clear hb)
      (try clear hb2)
      (try clear hk)
      (try clear hi)
      (try clear ho0)
      obtain ⟨Ao43, co43, eo43⟩ := Kd.V_slice HO787.out
      (first | subst eo43 | (injection eo43 with f1_ f2_ f3_; have f4_ := f1_.symm; have f5_ := f3_.symm; clear f1_ f2_ f3_; subst f4_; subst f5_))
      obtain ⟨Ao44, co44, eo44⟩ := Kd.V_slice HO792.out
      (first | subst eo44 | (injection eo44 with f1_ f2_ f3_; have f4_ := f1_.symm; have f5_ := f3_.symm; clear f1_ f2_ f3_; subst f4_; subst f5_))
      refine hK.out _ _ ⟨(blk_cell BK770.out 0).trans rfl, (blk_cell BK770.out 1).trans rfl, (blk_cell BK770.out 2).trans rfl, (blk_cell BK771.out 0).trans rfl, (blk_cell BK771.out 1).trans rfl, (blk_cell BK771.out 2).trans rfl⟩ (fun hHeld => ?_)
      clear hK K
      refine norm_ (a' := ?_) ?_ ?_
      rotate_left
      ·show Act.put _ (some 39) _ = _
       simp only [Act.put, List.setIfInBounds_toArray, List.set_cons_zero, List.set_cons_succ, i64_w, i32_w]
       rfl
      refine one_ (i := 4) (N := some 40) #[true, true, true, true, true, false] rfl rfl (by kernel_rfl) (by decide) (fun K hK => ?_)
      refine goes_ Try.func53 (by kernel_rfl) rfl #[.agg #[.bool t784, .slice Ao43 t785.length co43, .int .i64 t788], .agg #[.bool t789, .slice Ao44 t790.length co44, .int .i64 t793]] (by rfl) rfl rfl (by (try simp only [List.map_toArray, List.map_cons, List.map_nil]); first | done | rfl | (simp only [List.length_drop, List.length_take]; rfl)) ?_
      with_reducible refine (r03_Cmp.calls kj6 t784 _ _ t785 t788 t789 _ _ t790 t793 t794 _ ?side1 ?side2 ?side3 ?side4 A22.out).mono ?_
      (case side1 => repeat (first | exact (Kd.V_reads' HO787.out).2.2 | (with_reducible first | apply cA | apply cN | apply cD)))
      (case side2 => exact (Kd.V_reads' HO787.out).2.1)
      (case side3 => repeat (first | exact (Kd.V_reads' HO792.out).2.2 | (with_reducible first | apply cA | apply cN | apply cD)))
      (case side4 => exact (Kd.V_reads' HO792.out).2.1)
      rintro e w45 ⟨rfl, hb⟩
      refine ⟨_, rfl, ?_⟩
      have n0_ := Aside0.mk (Kd.R_below (rr_ HO777) hb)
      have n1_ := Aside0.mk (Kd.V_below (by (with_reducible repeat (first | apply Kd.V_alloc | apply Kd.V_drewN | apply Kd.V_drew)); exact HO787.out) hb)
      have n2_ := Aside0.mk (Kd.V_below (by (with_reducible repeat (first | apply Kd.V_alloc | apply Kd.V_drewN | apply Kd.V_drew)); exact HO792.out) hb)
      have n3_ := kb_ BK770 hb
      have n4_ := kb_ BK771 hb
      have n5_ := kb_ BK780 hb
      have n6_ := bs_ HB hb
      clear HO777
      clear HO787
      clear HO792
      clear BK770
      clear BK771
      clear BK780
      clear HB
      have HO777 := n0_
      have HO787 := n1_
      have HO792 := n2_
      have BK770 := n3_
      have BK771 := n4_
      have BK780 := n5_
      have HB := n6_
      clear n0_ n1_ n2_ n3_ n4_ n5_ n6_
      (try clear hb)
      (try clear hb2)
      (try clear hk)
      (try clear hi)
      refine hK.out _ _ ⟨(blk_cell BK770.out 0).trans rfl, (blk_cell BK770.out 1).trans rfl, (blk_cell BK770.out 2).trans rfl, (blk_cell BK771.out 0).trans rfl, (blk_cell BK771.out 1).trans rfl, (blk_cell BK771.out 2).trans rfl⟩ (fun hHeld => ?_)
      clear hK K
      refine norm_ (a' := ?_) ?_ ?_
      rotate_left
      ·show Act.put _ (some 40) _ = _
       simp only [Act.put, List.setIfInBounds_toArray, List.set_cons_zero, List.set_cons_succ, i64_w, i32_w]
       rfl
      refine pure_ (i := 5) (N := some 41) (v := ?_) (a' := ?_) #[true, true, true, true, true, true] rfl rfl (by kernel_rfl) (fun _ _ _ h => h) (Or.inl ⟨by rfl, ?_⟩) ?_ ?_
      rotate_left
      ·intro w'
       go_simp
       with_reducible rfl
      rotate_left
      ·simp only [Act.put, List.setIfInBounds_toArray, List.set_cons_zero, List.set_cons_succ, i64_w, i32_w]
       rfl
      refine done_ (by kernel_rfl) ?_
      try go_wp2
      have n0_ := Aside0.mk (Kd.R_drew HO777.out)
      have n1_ := Aside0.mk (Kd.V_drew HO787.out)
      have n2_ := Aside0.mk (Kd.V_drew HO792.out)
      have n3_ := Aside0.mk (blk_drew BK770.out)
      have n4_ := Aside0.mk (blk_drew BK771.out)
      have n5_ := Aside0.mk (blk_drew BK780.out)
      have n6_ := Aside0.mk (below_drew1 HB.out)
      clear HO777
      clear HO787
      clear HO792
      clear BK770
      clear BK771
      clear BK780
      clear HB
      have HO777 := n0_
      have HO787 := n1_
      have HO792 := n2_
      have BK770 := n3_
      have BK771 := n4_
      have BK780 := n5_
      have HB := n6_
      clear n0_ n1_ n2_ n3_ n4_ n5_ n6_
      refine start_ (n := 6) (S := fun w' => w'.cell? ⟨gb780, 0, none⟩ = some (.bool t774) ∧ w'.cell? ⟨gb780, 1, none⟩ = some (.slice Ao35 t775.length co35) ∧ w'.cell? ⟨gb780, 2, none⟩ = some (.int .i64 t778)) (ds := []) #[false, false, false, false, false, false] (by kernel_rfl) rfl rfl ⟨(blk_cell BK780.out 0).trans rfl, (blk_cell BK780.out 1).trans rfl, (blk_cell BK780.out 2).trans rfl⟩ (fun hHeld => ?_)
      generalize w45.drew = w46 at HO777 HO787 HO792 BK770 BK771 BK780 HB hHeld ⊢
      refine pure_ (i := 0) (N := some 42) (v := ?_) (a' := ?_) #[true, false, false, false, false, false] rfl rfl (by kernel_rfl) (fun _ _ _ h => h) (Or.inl ⟨by rfl, ?_⟩) ?_ ?_
      rotate_left
      ·intro w'
       go_simp
       with_reducible rfl
      rotate_left
      ·simp only [Act.put, List.setIfInBounds_toArray, List.set_cons_zero, List.set_cons_succ, i64_w, i32_w]
       rfl
      refine pure_ (i := 1) (N := some 43) (v := ?_) (a' := ?_) #[true, true, false, false, false, false] rfl rfl (by kernel_rfl) (fun _ _ _ h => h) (Or.inl ⟨by rfl, ?_⟩) ?_ ?_
      rotate_left
      ·intro w'
       go_simp
       with_reducible rfl
      rotate_left
      ·simp only [Act.put, List.setIfInBounds_toArray, List.set_cons_zero, List.set_cons_succ, i64_w, i32_w]
       rfl
      refine take_ (i := 3) (N := some 45) (v := ?_) (a' := ?_) #[true, true, false, true, false, false] rfl rfl (by kernel_rfl) (fun _ _ _ h => h) (Or.inl ⟨by rfl, ?_⟩) hHeld ?_ ?_
      rotate_left
      ·rintro w' ⟨s0, s1, s2⟩
       go_simp
       with_reducible rfl
      rotate_left
      ·simp only [Act.put, List.setIfInBounds_toArray, List.set_cons_zero, List.set_cons_succ, i64_w, i32_w]
       rfl
      refine one_ (i := 2) (N := some 44) #[true, true, true, true, false, false] rfl rfl (by kernel_rfl) (by decide) (fun K hK => ?_)
      refine goes_ Try.func18 (by kernel_rfl) rfl #[.float .f64 a0, .float .f64 a1] (by rfl) rfl rfl (by (try simp only [List.map_toArray, List.map_cons, List.map_nil]); first | done | rfl | (simp only [List.length_drop, List.length_take]; rfl)) ?_
      with_reducible refine (pair_Quick.calls a0 a1 t795 t796 _ A24.out).mono ?_
      rintro e w47 ⟨rfl, hb⟩
      refine ⟨_, rfl, ?_⟩
      have n0_ := Aside0.mk (Kd.R_below (rr_ HO777) hb)
      have n1_ := Aside0.mk (Kd.V_below (by (with_reducible repeat (first | apply Kd.V_alloc | apply Kd.V_drewN | apply Kd.V_drew)); exact HO787.out) hb)
      have n2_ := Aside0.mk (Kd.V_below (by (with_reducible repeat (first | apply Kd.V_alloc | apply Kd.V_drewN | apply Kd.V_drew)); exact HO792.out) hb)
      have n3_ := kb_ BK770 hb
      have n4_ := kb_ BK771 hb
      have n5_ := kb_ BK780 hb
      have n6_ := bs_ HB hb
      clear HO777
      clear HO787
      clear HO792
      clear BK770
      clear BK771
      clear BK780
      clear HB
      have HO777 := n0_
      have HO787 := n1_
      have HO792 := n2_
      have BK770 := n3_
      have BK771 := n4_
      have BK780 := n5_
      have HB := n6_
      clear n0_ n1_ n2_ n3_ n4_ n5_ n6_
      (try clear hb)
      (try clear hb2)
      (try clear hk)
      (try clear hi)
      refine hK.out _ _ ⟨(blk_cell BK780.out 0).trans rfl, (blk_cell BK780.out 1).trans rfl, (blk_cell BK780.out 2).trans rfl⟩ (fun hHeld => ?_)
      clear hK K
      refine norm_ (a' := ?_) ?_ ?_
      rotate_left
      ·show Act.put _ (some 44) _ = _
       simp only [Act.put, List.setIfInBounds_toArray, List.set_cons_zero, List.set_cons_succ, i64_w, i32_w]
       rfl
      refine one_ (i := 4) (N := some 46) #[true, true, true, true, true, false] rfl rfl (by kernel_rfl) (by decide) (fun K hK => ?_)
      refine goes_ Try.func52 (by kernel_rfl) rfl #[.agg #[.float .f64 t795, .float .f64 t796], .agg #[.bool t774, .slice Ao35 t775.length co35, .int .i64 t778]] (by rfl) rfl rfl (by (try simp only [List.map_toArray, List.map_cons, List.map_nil]); first | done | rfl | (simp only [List.length_drop, List.length_take]; rfl)) ?_
      with_reducible refine (l05_just.calls kj6 t795 t796 t774 _ _ t775 t778 t797 _ ?side1 ?side2 A25.out).mono ?_
      (case side1 => repeat (first | exact (Kd.R_reads' HO777.out).2.2 | (with_reducible first | apply cA | apply cN | apply cD)))
      (case side2 => exact (Kd.R_reads' HO777.out).2.1)
      rintro e w48 ⟨rfl, hb⟩
      refine ⟨_, rfl, ?_⟩
      have n0_ := Aside0.mk (Kd.R_below (rr_ HO777) hb)
      have n1_ := Aside0.mk (Kd.V_below (by (with_reducible repeat (first | apply Kd.V_alloc | apply Kd.V_drewN | apply Kd.V_drew)); exact HO787.out) hb)
      have n2_ := Aside0.mk (Kd.V_below (by (with_reducible repeat (first | apply Kd.V_alloc | apply Kd.V_drewN | apply Kd.V_drew)); exact HO792.out) hb)
      have n3_ := kb_ BK770 hb
      have n4_ := kb_ BK771 hb
      have n5_ := kb_ BK780 hb
      have n6_ := bs_ HB hb
      clear HO777
      clear HO787
      clear HO792
      clear BK770
      clear BK771
      clear BK780
      clear HB
      have HO777 := n0_
      have HO787 := n1_
      have HO792 := n2_
      have BK770 := n3_
      have BK771 := n4_
      have BK780 := n5_
      have HB := n6_
      clear n0_ n1_ n2_ n3_ n4_ n5_ n6_
      (try clear hb)
      (try clear hb2)
      (try clear hk)
      (try clear hi)
      refine hK.out _ _ ⟨(blk_cell BK780.out 0).trans rfl, (blk_cell BK780.out 1).trans rfl, (blk_cell BK780.out 2).trans rfl⟩ (fun hHeld => ?_)
      clear hK K
      refine norm_ (a' := ?_) ?_ ?_
      rotate_left
      ·show Act.put _ (some 46) _ = _
       simp only [Act.put, List.setIfInBounds_toArray, List.set_cons_zero, List.set_cons_succ, i64_w, i32_w]
       rfl
      refine pure_ (i := 5) (N := some 14) (v := ?_) (a' := ?_) #[true, true, true, true, true, true] rfl rfl (by kernel_rfl) (fun _ _ _ h => h) (Or.inl ⟨by rfl, ?_⟩) ?_ ?_
      rotate_left
      ·intro w'
       go_simp
       with_reducible rfl
      rotate_left
      ·simp only [Act.put, List.setIfInBounds_toArray, List.set_cons_zero, List.set_cons_succ, i64_w, i32_w]
       rfl
      refine done_ (by kernel_rfl) ?_
      try go_wp2
      go_ret
      exact ⟨by first | rfl | (simp [errW_none, errW_some] <;> rfl) | (simp [*, errW_none, errW_some] <;> rfl), bl_ HB⟩
     ·replace c26 := Bool.eq_false_iff.mpr c26
      subst c26
      have H1 : (none) = some r := by rw [if_neg (show ¬ (false = true) by decide)] at H; exact H
      clear H
      have H := H1
      clear H1
      exact absurd H (by simp)
    ·rw [if_neg c23] at H
     have c23b0 : decide (0 ≤ t794) = false := decide_eq_false c23
     clear c23
     obtain rfl := Option.some.inj H
     have hnb49 := NB770_771.out
     have hnc49 := NB771_770.out
     have hcz50_0 : wc.cell? ⟨gb770, 0, none⟩ = some (.bool a2_0) := (blk_cell BK770.out 0).trans rfl
     have hcz50_1 : wc.cell? ⟨gb770, 1, none⟩ = some (.slice A2_1 l2_1.length c2_1) := (blk_cell BK770.out 1).trans rfl
     have hcz50_2 : wc.cell? ⟨gb770, 2, none⟩ = some (.int .i64 a2_2) := (blk_cell BK770.out 2).trans rfl
     have hfz50_0 := blk_frozen BK770.out 0
     have hfz50_1 := blk_frozen BK770.out 1
     have hfz50_2 := blk_frozen BK770.out 2
     have hcz51_0 : wc.cell? ⟨gb771, 0, none⟩ = some (.bool a3_0) := (blk_cell BK771.out 0).trans rfl
     have hcz51_1 : wc.cell? ⟨gb771, 1, none⟩ = some (.slice A3_1 l3_1.length c3_1) := (blk_cell BK771.out 1).trans rfl
     have hcz51_2 : wc.cell? ⟨gb771, 2, none⟩ = some (.int .i64 a3_2) := (blk_cell BK771.out 2).trans rfl
     have hfz51_0 := blk_frozen BK771.out 0
     have hfz51_1 := blk_frozen BK771.out 1
     have hfz51_2 := blk_frozen BK771.out 2
     try go_wp2_with (first | ((with_reducible refine gate_callee (f := 35) rfl ?_); refine goesM (some 28) Try.func35 #[.agg #[.bool a2_0, .slice A2_1 l2_1.length c2_1, .int .i64 a2_2], .agg #[.bool a3_0, .slice A3_1 l3_1.length c3_1, .int .i64 a3_2]] ?_; (with_reducible refine (r03_Add.calls kj6 a2_0 _ _ l2_1 a2_2 a3_0 _ _ l3_1 a3_2 t774 t775 t778 t779 _ ?side1 ?side2 ?side3 ?side4 A17.out).mono ?_); (case side1 => repeat (first | exact (Kd.C_below HR2_1.out HB.out) | (with_reducible first | apply cA | apply cN | apply cD))); (case side2 => exact HC2_1.out); (case side3 => repeat (first | exact (Kd.C_below HR3_1.out HB.out) | (with_reducible first | apply cA | apply cN | apply cD))); (case side4 => exact HC3_1.out); rintro e w52 ⟨v776, rfl, ho0, hb⟩; refine ⟨_, rfl, ?_⟩; have n0_ := Aside0.mk (Kd.R_lower ho0 (below_size (bl_ HB))); have n1_ := kb_ BK770 hb; have n2_ := kb_ BK771 hb; have n3_ := bs_ HB hb; clear BK770; clear BK771; clear HB; have HO777 := n0_; have BK770 := n1_; have BK771 := n2_; have HB := n3_; clear n0_ n1_ n2_ n3_; (try clear hb); (try clear hb2); (try clear hk); (try clear hi); (try clear ho0)) | ((with_reducible refine gate_dst (N := 11) rfl ?_); refine box_event ?hg (N := 11) ?hd (cs := #[.bool false, .slice none 0 0, .int .i64 0]) (t := 43) ?hr ?_; (case hd => rfl); (case hg => rfl); (case hr => first | (go_simp; done) | (go_simp; rfl)); intro gb780 hg w53 hbox hb; have n0_ := Aside0.mk (Kd.R_below (rr_ HO777) hb); have n1_ := kb_ BK770 hb; have n2_ := kb_ BK771 hb; have n3_ := bs_ HB hb; have n4_ := Aside0.mk (hbox); have n5_ := ge_ HB hg; have n6_ := ge_ HB hg; have n7_ := nlt_ BK770 hg; have n8_ := ngt_ BK770 hg; have n9_ := nlt_ BK771 hg; have n10_ := ngt_ BK771 hg; clear HO777; clear BK770; clear BK771; clear HB; have HO777 := n0_; have BK770 := n1_; have BK771 := n2_; have HB := n3_; have BK780 := n4_; have GW780 := n5_; have GE780 := n6_; have NB770_780 := n7_; have NB780_770 := n8_; have NB771_780 := n9_; have NB780_771 := n10_; clear n0_ n1_ n2_ n3_ n4_ n5_ n6_ n7_ n8_ n9_ n10_; clear hb hbox hg; have hnb54 := NB780_770.out; have hnc54 := NB770_780.out; have hnb55 := NB780_771.out; have hnc55 := NB771_780.out; have hcz56_0 : w53.cell? ⟨gb780, 0, none⟩ = some (.bool false) := (blk_cell BK780.out 0).trans rfl; have hcz56_1 : w53.cell? ⟨gb780, 1, none⟩ = some (.slice none 0 0) := (blk_cell BK780.out 1).trans rfl; have hcz56_2 : w53.cell? ⟨gb780, 2, none⟩ = some (.int .i64 0) := (blk_cell BK780.out 2).trans rfl; have hfz56_0 := blk_frozen BK780.out 0; have hfz56_1 := blk_frozen BK780.out 1; have hfz56_2 := blk_frozen BK780.out 2; obtain ⟨Ao57, co57, eo57⟩ := Kd.R_slice HO777.out; subst eo57))
     have n0_ : Aside0 (Kd.R (Kd.int .u32) 72 (((w53.setCell ⟨gb780, 0, none⟩ (.bool t774)).setCell ⟨gb780, 1, none⟩ (.slice Ao57 t775.length co57)).setCell ⟨gb780, 2, none⟩ (.int .i64 t778)) w.heap.size (fun _ => True) (.slice Ao57 t775.length co57) t775) := ⟨by (with_reducible repeat (first | apply rA | apply rN | apply rD)); exact Kd.R_mono (Kd.R_far (p := ⟨gb780, 2, none⟩) (Kd.R_far (p := ⟨gb780, 1, none⟩) (Kd.R_far (p := ⟨gb780, 0, none⟩) (Kd.R_types HO777.out BK780.out (by decide)) (fun _ hk => hk.2) (.bool t774)) (fun _ hk => hk.2) (.slice Ao57 t775.length co57)) (fun _ hk => hk.2) (.int .i64 t778)) (fun _ hk => trivial)⟩
     have n1_ : Aside0 ((((w53.setCell ⟨gb780, 0, none⟩ (.bool t774)).setCell ⟨gb780, 1, none⟩ (.slice Ao57 t775.length co57)).setCell ⟨gb780, 2, none⟩ (.int .i64 t778)).heap[gb770]? = some (.cells #[.bool a2_0, .slice A2_1 l2_1.length c2_1, .int .i64 a2_2] 43 (0, 0))) := ⟨by (with_reducible repeat (first | apply bN | apply bD | apply bA)); refine blk_far ?_ NB770_780.out _; (with_reducible repeat (first | apply bN | apply bD | apply bA)); refine blk_far ?_ NB770_780.out _; (with_reducible repeat (first | apply bN | apply bD | apply bA)); refine blk_far ?_ NB770_780.out _; exact bk_ BK770⟩
     have n2_ : Aside0 ((((w53.setCell ⟨gb780, 0, none⟩ (.bool t774)).setCell ⟨gb780, 1, none⟩ (.slice Ao57 t775.length co57)).setCell ⟨gb780, 2, none⟩ (.int .i64 t778)).heap[gb771]? = some (.cells #[.bool a3_0, .slice A3_1 l3_1.length c3_1, .int .i64 a3_2] 43 (0, 0))) := ⟨by (with_reducible repeat (first | apply bN | apply bD | apply bA)); refine blk_far ?_ NB771_780.out _; (with_reducible repeat (first | apply bN | apply bD | apply bA)); refine blk_far ?_ NB771_780.out _; (with_reducible repeat (first | apply bN | apply bD | apply bA)); refine blk_far ?_ NB771_780.out _; exact bk_ BK771⟩
     have n3_ : Aside0 ((((w53.setCell ⟨gb780, 0, none⟩ (.bool t774)).setCell ⟨gb780, 1, none⟩ (.slice Ao57 t775.length co57)).setCell ⟨gb780, 2, none⟩ (.int .i64 t778)).heap[gb780]? = some (.cells #[.bool t774, .slice Ao57 t775.length co57, .int .i64 t778] 43 (0, 0))) := ⟨by (with_reducible repeat (first | apply bN | apply bD | apply bA)); refine blk_put (cs := #[.bool t774, .slice Ao57 t775.length co57, .int .i64 0]) ?_ 2 _ rfl; (with_reducible repeat (first | apply bN | apply bD | apply bA)); refine blk_put (cs := #[.bool t774, .slice none 0 0, .int .i64 0]) ?_ 1 _ rfl; (with_reducible repeat (first | apply bN | apply bD | apply bA)); refine blk_put (cs := #[.bool false, .slice none 0 0, .int .i64 0]) ?_ 0 _ rfl; exact bk_ BK780⟩
     have n4_ : Aside0 (Below w.heap.size w (((w53.setCell ⟨gb780, 0, none⟩ (.bool t774)).setCell ⟨gb780, 1, none⟩ (.slice Ao57 t775.length co57)).setCell ⟨gb780, 2, none⟩ (.int .i64 t778))) := ⟨bl_ HB⟩
     (try clear HO777)
     (try clear BK770)
     (try clear BK771)
     (try clear BK780)
     (try clear HB)
     generalize (((w53.setCell ⟨gb780, 0, none⟩ (.bool t774)).setCell ⟨gb780, 1, none⟩ (.slice Ao57 t775.length co57)).setCell ⟨gb780, 2, none⟩ (.int .i64 t778)) = w58 at n0_ n1_ n2_ n3_ n4_ ⊢
     have HO777 := n0_
     have BK770 := n1_
     have BK771 := n2_
     have BK780 := n3_
     have HB := n4_
     clear n0_ n1_ n2_ n3_ n4_
     have n0_ := Aside0.mk (Kd.R_drew HO777.out)
     have n1_ := Aside0.mk (blk_drew BK770.out)
     have n2_ := Aside0.mk (blk_drew BK771.out)
     have n3_ := Aside0.mk (blk_drew BK780.out)
     have n4_ := Aside0.mk (below_drew1 HB.out)
     clear HO777
     clear BK770
     clear BK771
     clear BK780
     clear HB
     have HO777 := n0_
     have BK770 := n1_
     have BK771 := n2_
     have BK780 := n3_
     have HB := n4_
     clear n0_ n1_ n2_ n3_ n4_
     refine start_ (n := 6) (S := fun w' => w'.cell? ⟨gb780, 0, none⟩ = some (.bool t774) ∧ w'.cell? ⟨gb780, 1, none⟩ = some (.slice Ao57 t775.length co57) ∧ w'.cell? ⟨gb780, 2, none⟩ = some (.int .i64 t778)) (ds := []) #[false, false, false, false, false, false] (by kernel_rfl) rfl rfl ⟨(blk_cell BK780.out 0).trans rfl, (blk_cell BK780.out 1).trans rfl, (blk_cell BK780.out 2).trans rfl⟩ (fun hHeld => ?_)
     generalize w58.drew = w59 at HO777 BK770 BK771 BK780 HB hHeld ⊢
     refine pure_ (i := 0) (N := some 31) (v := ?_) (a' := ?_) #[true, false, false, false, false, false] rfl rfl (by kernel_rfl) (fun _ _ _ h => h) (Or.inl ⟨by rfl, ?_⟩) ?_ ?_
     rotate_left
     ·intro w'
      go_simp
      with_reducible rfl
     rotate_left
     ·simp only [Act.put, List.setIfInBounds_toArray, List.set_cons_zero, List.set_cons_succ, i64_w, i32_w]
      rfl
     refine pure_ (i := 1) (N := some 32) (v := ?_) (a' := ?_) #[true, true, false, false, false, false] rfl rfl (by kernel_rfl) (fun _ _ _ h => h) (Or.inl ⟨by rfl, ?_⟩) ?_ ?_
     rotate_left
     ·intro w'
      go_simp
      with_reducible rfl
     rotate_left
     ·simp only [Act.put, List.setIfInBounds_toArray, List.set_cons_zero, List.set_cons_succ, i64_w, i32_w]
      rfl
     refine take_ (i := 3) (N := some 34) (v := ?_) (a' := ?_) #[true, true, false, true, false, false] rfl rfl (by kernel_rfl) (fun _ _ _ h => h) (Or.inl ⟨by rfl, ?_⟩) hHeld ?_ ?_
     rotate_left
     ·rintro w' ⟨s0, s1, s2⟩
      go_simp
      with_reducible rfl
     rotate_left
     ·simp only [Act.put, List.setIfInBounds_toArray, List.set_cons_zero, List.set_cons_succ, i64_w, i32_w]
      rfl
     refine one_ (i := 2) (N := some 33) #[true, true, true, true, false, false] rfl rfl (by kernel_rfl) (by decide) (fun K hK => ?_)
     refine goes_ Try.func12 (by kernel_rfl) rfl #[.float .f64 a0, .float .f64 a1] (by rfl) rfl rfl (by (try simp only [List.map_toArray, List.map_cons, List.map_nil]); first | done | rfl | (simp only [List.length_drop, List.length_take]; rfl)) ?_
     with_reducible refine (pair_Sum.calls a0 a1 t781 t782 _ A18.out).mono ?_
     rintro e w60 ⟨rfl, hb⟩
     refine ⟨_, rfl, ?_⟩
     have n0_ := Aside0.mk (Kd.R_below (rr_ HO777) hb)
     have n1_ := kb_ BK770 hb
     have n2_ := kb_ BK771 hb
     have n3_ := kb_ BK780 hb
     have n4_ := bs_ HB hb
     clear HO777
     clear BK770
     clear BK771
     clear BK780
     clear HB
     have HO777 := n0_
     have BK770 := n1_
     have BK771 := n2_
     have BK780 := n3_
     have HB := n4_
     clear n0_ n1_ n2_ n3_ n4_
     (try clear hb)
     (try clear hb2)
     (try clear hk)
     (try clear hi)
     refine hK.out _ _ ⟨(blk_cell BK780.out 0).trans rfl, (blk_cell BK780.out 1).trans rfl, (blk_cell BK780.out 2).trans rfl⟩ (fun hHeld => ?_)
     clear hK K
     refine norm_ (a' := ?_) ?_ ?_
     rotate_left
     ·show Act.put _ (some 33) _ = _
      simp only [Act.put, List.setIfInBounds_toArray, List.set_cons_zero, List.set_cons_succ, i64_w, i32_w]
      rfl
     refine one_ (i := 4) (N := some 35) #[true, true, true, true, true, false] rfl rfl (by kernel_rfl) (by decide) (fun K hK => ?_)
     refine goes_ Try.func52 (by kernel_rfl) rfl #[.agg #[.float .f64 t781, .float .f64 t782], .agg #[.bool t774, .slice Ao57 t775.length co57, .int .i64 t778]] (by rfl) rfl rfl (by (try simp only [List.map_toArray, List.map_cons, List.map_nil]); first | done | rfl | (simp only [List.length_drop, List.length_take]; rfl)) ?_
     with_reducible refine (l05_just.calls kj6 t781 t782 t774 _ _ t775 t778 t783 _ ?side1 ?side2 A19.out).mono ?_
     (case side1 => repeat (first | exact (Kd.R_reads' HO777.out).2.2 | (with_reducible first | apply cA | apply cN | apply cD)))
     (case side2 => exact (Kd.R_reads' HO777.out).2.1)
     rintro e w61 ⟨rfl, hb⟩
     refine ⟨_, rfl, ?_⟩
     have n0_ := Aside0.mk (Kd.R_below (rr_ HO777) hb)
     have n1_ := kb_ BK770 hb
     have n2_ := kb_ BK771 hb
     have n3_ := kb_ BK780 hb
     have n4_ := bs_ HB hb
     clear HO777
     clear BK770
     clear BK771
     clear BK780
     clear HB
     have HO777 := n0_
     have BK770 := n1_
     have BK771 := n2_
     have BK780 := n3_
     have HB := n4_
     clear n0_ n1_ n2_ n3_ n4_
     (try clear hb)
     (try clear hb2)
     (try clear hk)
     (try clear hi)
     refine hK.out _ _ ⟨(blk_cell BK780.out 0).trans rfl, (blk_cell BK780.out 1).trans rfl, (blk_cell BK780.out 2).trans rfl⟩ (fun hHeld => ?_)
     clear hK K
     refine norm_ (a' := ?_) ?_ ?_
     rotate_left
     ·show Act.put _ (some 35) _ = _
      simp only [Act.put, List.setIfInBounds_toArray, List.set_cons_zero, List.set_cons_succ, i64_w, i32_w]
      rfl
     refine pure_ (i := 5) (N := some 13) (v := ?_) (a' := ?_) #[true, true, true, true, true, true] rfl rfl (by kernel_rfl) (fun _ _ _ h => h) (Or.inl ⟨by rfl, ?_⟩) ?_ ?_
     rotate_left
     ·intro w'
      go_simp
      with_reducible rfl
     rotate_left
     ·simp only [Act.put, List.setIfInBounds_toArray, List.set_cons_zero, List.set_cons_succ, i64_w, i32_w]
      rfl
     refine done_ (by kernel_rfl) ?_
     try go_wp2
     have n0_ := Aside0.mk (Kd.R_drew HO777.out)
     have n1_ := Aside0.mk (blk_drew BK770.out)
     have n2_ := Aside0.mk (blk_drew BK771.out)
     have n3_ := Aside0.mk (blk_drew BK780.out)
     have n4_ := Aside0.mk (below_drew1 HB.out)
     clear HO777
     clear BK770
     clear BK771
     clear BK780
     clear HB
     have HO777 := n0_
     have BK770 := n1_
     have BK771 := n2_
     have BK780 := n3_
     have HB := n4_
     clear n0_ n1_ n2_ n3_ n4_
     refine start_ (n := 6) (S := fun w' => w'.cell? ⟨gb770, 0, none⟩ = some (.bool a2_0) ∧ w'.cell? ⟨gb770, 1, none⟩ = some (.slice A2_1 l2_1.length c2_1) ∧ w'.cell? ⟨gb770, 2, none⟩ = some (.int .i64 a2_2) ∧ w'.cell? ⟨gb771, 0, none⟩ = some (.bool a3_0) ∧ w'.cell? ⟨gb771, 1, none⟩ = some (.slice A3_1 l3_1.length c3_1) ∧ w'.cell? ⟨gb771, 2, none⟩ = some (.int .i64 a3_2)) (ds := []) #[false, false, false, false, false, false] (by kernel_rfl) rfl rfl ⟨(blk_cell BK770.out 0).trans rfl, (blk_cell BK770.out 1).trans rfl, (blk_cell BK770.out 2).trans rfl, (blk_cell BK771.out 0).trans rfl, (blk_cell BK771.out 1).trans rfl, (blk_cell BK771.out 2).trans rfl⟩ (fun hHeld => ?_)
     generalize w61.drew = w62 at HO777 BK770 BK771 BK780 HB hHeld ⊢
     refine take_ (i := 0) (N := some 36) (v := ?_) (a' := ?_) #[true, false, false, false, false, false] rfl rfl (by kernel_rfl) (fun _ _ _ h => h) (Or.inl ⟨by rfl, ?_⟩) hHeld ?_ ?_
     rotate_left
     ·rintro w' ⟨s0, s1, s2, s3, s4, s5⟩
      go_simp
      with_reducible rfl
     rotate_left
     ·simp only [Act.put, List.setIfInBounds_toArray, List.set_cons_zero, List.set_cons_succ, i64_w, i32_w]
      rfl
     refine take_ (i := 2) (N := some 38) (v := ?_) (a' := ?_) #[true, false, true, false, false, false] rfl rfl (by kernel_rfl) (fun _ _ _ h => h) (Or.inl ⟨by rfl, ?_⟩) hHeld ?_ ?_
     rotate_left
     ·rintro w' ⟨s0, s1, s2, s3, s4, s5⟩
      go_simp
      with_reducible rfl
     rotate_left
     ·simp only [Act.put, List.setIfInBounds_toArray, List.set_cons_zero, List.set_cons_succ, i64_w, i32_w]
      rfl
     refine one_ (i := 1) (N := some 37) #[true, true, true, false, false, false] rfl rfl (by kernel_rfl) (by decide) (fun K hK => ?_)
     refine goes_ Try.func54 (by kernel_rfl) rfl #[.agg #[.bool a2_0, .slice A2_1 l2_1.length c2_1, .int .i64 a2_2]] (by rfl) rfl rfl (by (try simp only [List.map_toArray, List.map_cons, List.map_nil]); first | done | rfl | (simp only [List.length_drop, List.length_take]; rfl)) ?_
     with_reducible refine (l05_size.calls a2_0 (fun k_ => k_ < w.heap.size) _ _ l2_1 a2_2 t784 t785 t788 _ ?side1 A20.out).mono ?_
     (case side1 => exact Kd.V_mk HC2_1.out (Kd.F_below (Kd.C_F (Kd.heap_int .u32) HR2_1.out) (bl_ HB)))
     rintro e w63 ⟨v786, rfl, ho0, hb⟩
     refine ⟨_, rfl, ?_⟩
     have n0_ := Aside0.mk (Kd.R_below (rr_ HO777) hb)
     have n1_ := Aside0.mk (Kd.V_lower (Kd.V_mono (ok' := fun k_ => some k_ ≠ (.slice Ao57 t775.length co57 : Value).ownBlock ∧ k_ ≠ gb770 ∧ k_ ≠ gb771 ∧ k_ ≠ gb780) ho0 (fun k_ hk_ => ⟨Or.elim hk_ (fun hs_ => fun e_ => Nat.not_le.2 hs_ (Kd.R_base HO777.out k_ e_.symm)) (fun hn_ => (Kd.fresh' (Kd.R_lt (rr_ HO777)) k_ hn_)), Or.elim hk_ (fun hs_ => fun e_ => Nat.not_le.2 hs_ (by rw [e_]; exact GW770.out)) (fun hn_ => (Kd.freshB (g := gb770) (o := .cells #[.bool a2_0, .slice A2_1 l2_1.length c2_1, .int .i64 a2_2] 43 (0, 0)) (bk_ BK770) k_ hn_)), Or.elim hk_ (fun hs_ => fun e_ => Nat.not_le.2 hs_ (by rw [e_]; exact GW771.out)) (fun hn_ => (Kd.freshB (g := gb771) (o := .cells #[.bool a3_0, .slice A3_1 l3_1.length c3_1, .int .i64 a3_2] 43 (0, 0)) (bk_ BK771) k_ hn_)), Or.elim hk_ (fun hs_ => fun e_ => Nat.not_le.2 hs_ (by rw [e_]; exact GW780.out)) (fun hn_ => (Kd.freshB (g := gb780) (o := .cells #[.bool t774, .slice Ao57 t775.length co57, .int .i64 t778] 43 (0, 0)) (bk_ BK780) k_ hn_))⟩)) (below_size (bl_ HB)))
     have n2_ := kb_ BK770 hb
     have n3_ := kb_ BK771 hb
     have n4_ := kb_ BK780 hb
     have n5_ := bs_ HB hb
     clear HO777
     clear BK770
     clear BK771
     clear BK780
     clear HB
     have HO777 := n0_
     have HO787 := n1_
     have BK770 := n2_
     have BK771 := n3_
     have BK780 := n4_
     have HB := n5_
     clear n0_ n1_ n2_ n3_ n4_ n5_
     (try clear hb)
     (try clear hb2)
     (try clear hk)
     (try clear hi)
     (try clear ho0)
     refine hK.out _ _ ⟨(blk_cell BK770.out 0).trans rfl, (blk_cell BK770.out 1).trans rfl, (blk_cell BK770.out 2).trans rfl, (blk_cell BK771.out 0).trans rfl, (blk_cell BK771.out 1).trans rfl, (blk_cell BK771.out 2).trans rfl⟩ (fun hHeld => ?_)
     clear hK K
     refine norm_ (a' := ?_) ?_ ?_
     rotate_left
     ·show Act.put _ (some 37) _ = _
      simp only [Act.put, List.setIfInBounds_toArray, List.set_cons_zero, List.set_cons_succ, i64_w, i32_w]
      rfl
     refine one_ (i := 3) (N := some 39) #[true, true, true, true, false, false] rfl rfl (by kernel_rfl) (by decide) (fun K hK => ?_)
     refine goes_ Try.func54 (by kernel_rfl) rfl #[.agg #[.bool a3_0, .slice A3_1 l3_1.length c3_1, .int .i64 a3_2]] (by rfl) rfl rfl (by (try simp only [List.map_toArray, List.map_cons, List.map_nil]); first | done | rfl | (simp only [List.length_drop, List.length_take]; rfl)) ?_
     with_reducible refine (l05_size.calls a3_0 (fun k_ => k_ < w.heap.size) _ _ l3_1 a3_2 t789 t790 t793 _ ?side1 A21.out).mono ?_
     (case side1 => exact Kd.V_mk HC3_1.out (Kd.F_below (Kd.C_F (Kd.heap_int .u32) HR3_1.out) (bl_ HB)))
     rintro e w64 ⟨v791, rfl, ho0, hb⟩
     refine ⟨_, rfl, ?_⟩
     have n0_ := Aside0.mk (Kd.R_below (rr_ HO777) hb)
     have n1_ := Aside0.mk (Kd.V_below (by (with_reducible repeat (first | apply Kd.V_alloc | apply Kd.V_drewN | apply Kd.V_drew)); exact HO787.out) hb)
     have n2_ := Aside0.mk (Kd.V_lower (Kd.V_mono (ok' := fun k_ => some k_ ≠ (.slice Ao57 t775.length co57 : Value).ownBlock ∧ k_ ≠ gb770 ∧ k_ ≠ gb771 ∧ k_ ≠ gb780) ho0 (fun k_ hk_ => ⟨Or.elim hk_ (fun hs_ => fun e_ => Nat.not_le.2 hs_ (Kd.R_base HO777.out k_ e_.symm)) (fun hn_ => (Kd.fresh' (Kd.R_lt (rr_ HO777)) k_ hn_)), Or.elim hk_ (fun hs_ => fun e_ => Nat.not_le.2 hs_ (by rw [e_]; exact GW770.out)) (fun hn_ => (Kd.freshB (g := gb770) (o := .cells #[.bool a2_0, .slice A2_1 l2_1.length c2_1, .int .i64 a2_2] 43 (0, 0)) (bk_ BK770) k_ hn_)), Or.elim hk_ (fun hs_ => fun e_ => Nat.not_le.2 hs_ (by rw [e_]; exact GW771.out)) (fun hn_ => (Kd.freshB (g := gb771) (o := .cells #[.bool a3_0, .slice A3_1 l3_1.length c3_1, .int .i64 a3_2] 43 (0, 0)) (bk_ BK771) k_ hn_)), Or.elim hk_ (fun hs_ => fun e_ => Nat.not_le.2 hs_ (by rw [e_]; exact GW780.out)) (fun hn_ => (Kd.freshB (g := gb780) (o := .cells #[.bool t774, .slice Ao57 t775.length co57, .int .i64 t778] 43 (0, 0)) (bk_ BK780) k_ hn_))⟩)) (below_size (bl_ HB)))
     have n3_ := kb_ BK770 hb
     have n4_ := kb_ BK771 hb
     have n5_ := kb_ BK780 hb
     have n6_ := bs_ HB hb
     clear HO777
     clear HO787
     clear BK770
     clear BK771
     clear BK780
     clear HB
     have HO777 := n0_
     have HO787 := n1_
     have HO792 := n2_
     have BK770 := n3_
     have BK771 := n4_
     have BK780 := n5_
     have HB := n6_
     clear n0_ n1_ n2_ n3_ n4_ n5_ n6_
     (try clear hb)
     (try clear hb2)
     (try clear hk)
     (try clear hi)
     (try clear ho0)
     obtain ⟨Ao65, co65, eo65⟩ := Kd.V_slice HO787.out
     (first | subst eo65 | (injection eo65 with f1_ f2_ f3_; have f4_ := f1_.symm; have f5_ := f3_.symm; clear f1_ f2_ f3_; subst f4_; subst f5_))
     obtain ⟨Ao66, co66, eo66⟩ := Kd.V_slice HO792.out
     (first | subst eo66 | (injection eo66 with f1_ f2_ f3_; have f4_ := f1_.symm; have f5_ := f3_.symm; clear f1_ f2_ f3_; subst f4_; subst f5_))
     refine hK.out _ _ ⟨(blk_cell BK770.out 0).trans rfl, (blk_cell BK770.out 1).trans rfl, (blk_cell BK770.out 2).trans rfl, (blk_cell BK771.out 0).trans rfl, (blk_cell BK771.out 1).trans rfl, (blk_cell BK771.out 2).trans rfl⟩ (fun hHeld => ?_)
     clear hK K
     refine norm_ (a' := ?_) ?_ ?_
     rotate_left
     ·show Act.put _ (some 39) _ = _
      simp only [Act.put, List.setIfInBounds_toArray, List.set_cons_zero, List.set_cons_succ, i64_w, i32_w]
      rfl
     refine one_ (i := 4) (N := some 40) #[true, true, true, true, true, false] rfl rfl (by kernel_rfl) (by decide) (fun K hK => ?_)
     refine goes_ Try.func53 (by kernel_rfl) rfl #[.agg #[.bool t784, .slice Ao65 t785.length co65, .int .i64 t788], .agg #[.bool t789, .slice Ao66 t790.length co66, .int .i64 t793]] (by rfl) rfl rfl (by (try simp only [List.map_toArray, List.map_cons, List.map_nil]); first | done | rfl | (simp only [List.length_drop, List.length_take]; rfl)) ?_
     with_reducible refine (r03_Cmp.calls kj6 t784 _ _ t785 t788 t789 _ _ t790 t793 t794 _ ?side1 ?side2 ?side3 ?side4 A22.out).mono ?_
     (case side1 => repeat (first | exact (Kd.V_reads' HO787.out).2.2 | (with_reducible first | apply cA | apply cN | apply cD)))
     (case side2 => exact (Kd.V_reads' HO787.out).2.1)
     (case side3 => repeat (first | exact (Kd.V_reads' HO792.out).2.2 | (with_reducible first | apply cA | apply cN | apply cD)))
     (case side4 => exact (Kd.V_reads' HO792.out).2.1)
     rintro e w67 ⟨rfl, hb⟩
     refine ⟨_, rfl, ?_⟩
     have n0_ := Aside0.mk (Kd.R_below (rr_ HO777) hb)
     have n1_ := Aside0.mk (Kd.V_below (by (with_reducible repeat (first | apply Kd.V_alloc | apply Kd.V_drewN | apply Kd.V_drew)); exact HO787.out) hb)
     have n2_ := Aside0.mk (Kd.V_below (by (with_reducible repeat (first | apply Kd.V_alloc | apply Kd.V_drewN | apply Kd.V_drew)); exact HO792.out) hb)
     have n3_ := kb_ BK770 hb
     have n4_ := kb_ BK771 hb
     have n5_ := kb_ BK780 hb
     have n6_ := bs_ HB hb
     clear HO777
     clear HO787
     clear HO792
     clear BK770
     clear BK771
     clear BK780
     clear HB
     have HO777 := n0_
     have HO787 := n1_
     have HO792 := n2_
     have BK770 := n3_
     have BK771 := n4_
     have BK780 := n5_
     have HB := n6_
     clear n0_ n1_ n2_ n3_ n4_ n5_ n6_
     (try clear hb)
     (try clear hb2)
     (try clear hk)
     (try clear hi)
     refine hK.out _ _ ⟨(blk_cell BK770.out 0).trans rfl, (blk_cell BK770.out 1).trans rfl, (blk_cell BK770.out 2).trans rfl, (blk_cell BK771.out 0).trans rfl, (blk_cell BK771.out 1).trans rfl, (blk_cell BK771.out 2).trans rfl⟩ (fun hHeld => ?_)
     clear hK K
     refine norm_ (a' := ?_) ?_ ?_
     rotate_left
     ·show Act.put _ (some 40) _ = _
      simp only [Act.put, List.setIfInBounds_toArray, List.set_cons_zero, List.set_cons_succ, i64_w, i32_w]
      rfl
     refine pure_ (i := 5) (N := some 41) (v := ?_) (a' := ?_) #[true, true, true, true, true, true] rfl rfl (by kernel_rfl) (fun _ _ _ h => h) (Or.inl ⟨by rfl, ?_⟩) ?_ ?_
     rotate_left
     ·intro w'
      go_simp
      with_reducible rfl
     rotate_left
     ·simp only [Act.put, List.setIfInBounds_toArray, List.set_cons_zero, List.set_cons_succ, i64_w, i32_w]
      rfl
     refine done_ (by kernel_rfl) ?_
     try go_wp2
     go_ret
     exact ⟨by first | rfl | (simp [errW_none, errW_some] <;> rfl) | (simp [*, errW_none, errW_some] <;> rfl), bl_ HB⟩

end Go.Proofs.Ytdemanikmaafeaa.Pr
-- written by this session's own program (wip/fprint.py), which widens the kit's print by floats
namespace Go.Proofs.Ytdemanikmaafeaa.Pr
open Go.RowKit Go.Proofs.YtdemanikmaafeaaW.PrintWords Go.Proofs.YtdemanikmaafeaaW.PrintLast Go.Proofs.YtdemanikmaafeaaW.PrintMore
attribute [local go_sem] max2_int min2_int max_two min_two max_three min_three max_four min_four   -- for this text's walks alone
set_option linter.unusedVariables false
set_option linter.unusedSimpArgs false

/-! ### l05_halved: function 31 -/
def l05_halved.f (k : Nat) (a0 : Nat) (a1_0 : Bool) (l1_1 : List Int) (a1_2 : Int) : Option (Bool) := (l05_within.f k a1_0 l1_1 a1_2 995).bind fun t799 => (if t799 = true then ((pair_Halves.f a0).bind fun bt800 => ((l05_just.f k bt800.1 bt800.2 a1_0 l1_1 a1_2).bind fun t803 => ((l05_finite.f k bt800.1).bind fun bt804 => ((l05_finite.f k bt800.2).bind fun bt811 => (if t803 = true then (if bt804.2.2.2 = true then (if bt811.2.2.2 = true then ((r02_Len.f k bt804.2.1).bind fun t818 => (if t818 ≤ 26 then ((r02_Len.f k bt811.2.1).bind fun t819 => (some (decide (t819 ≤ 26)))) else (none))) else (none)) else (none)) else (none)))))) else (some true))
theorem l05_halved.mono : ∀ a0 a1 a2 a3 k, LeO (l05_halved.f k a0 a1 a2 a3) (l05_halved.f (k + 1) a0 a1 a2 a3) := by
 intro a0 a1 a2 a3 k
 unfold l05_halved.f
 repeat' first
   | (with_reducible exact l05_finite.mono _ _)
   | (with_reducible exact l05_just.mono _ _ _ _ _ _)
   | (with_reducible exact l05_within.mono _ _ _ _ _)
   | (with_reducible exact r02_Len.mono _ _)
   | (with_reducible exact LeO.refl _)
   | (with_reducible exact LeO.none _)
   | (with_reducible refine LeO.ite ?_ ?_)
   | (with_reducible refine LeO.bind ?_ (fun _ => ?_))
   | exact l05_finite.mono _ _
   | exact l05_just.mono _ _ _ _ _ _
   | exact l05_within.mono _ _ _ _ _
   | exact r02_Len.mono _ _
   | exact LeO.none _
   | refine LeO.ite ?_ ?_
   | refine LeO.bind ?_ (fun _ => ?_)
set_option maxHeartbeats 3000000 in
set_option maxRecDepth 100000 in
theorem l05_halved.calls (k : Nat) (a0 : Nat) (a1_0 : Bool) (A1_1 : Option Addr) (c1_1 : Nat) (l1_1 : List Int) (a1_2 : Int) (r : Bool) (w : World) (hr1_1 : Kd.C (Kd.int .u32) w A1_1 l1_1.length l1_1) (hc1_1 : l1_1.length ≤ c1_1) (h : l05_halved.f k a0 a1_0 l1_1 a1_2 = some r) :
  Calls Try.prog 31 #[.float .f64 a0, .agg #[.bool a1_0, .slice A1_1 l1_1.length c1_1, .int .i64 a1_2]] w fun e w' => e = .returned (.bool r) ∧ Below w.heap.size w w' := by
 have hu43 := Try.underlying43
 have hu30 := Try.underlying30
 have HR1_1 := Aside0.mk hr1_1
 have HC1_1 := Aside0.mk hc1_1
 clear hr1_1 hc1_1
 have HB := Aside0.mk (Below.refl w.heap.size w)
 have H : ((l05_within.f k a1_0 l1_1 a1_2 995).bind fun t799 => (if t799 = true then ((pair_Halves.f a0).bind fun bt800 => ((l05_just.f k bt800.1 bt800.2 a1_0 l1_1 a1_2).bind fun t803 => ((l05_finite.f k bt800.1).bind fun bt804 => ((l05_finite.f k bt800.2).bind fun bt811 => (if t803 = true then (if bt804.2.2.2 = true then (if bt811.2.2.2 = true then ((r02_Len.f k bt804.2.1).bind fun t818 => (if t818 ≤ 26 then ((r02_Len.f k bt811.2.1).bind fun t819 => (some (decide (t819 ≤ 26)))) else (none))) else (none)) else (none)) else (none)))))) else (some true))) = some r := h
 clear h
 obtain ⟨t799, A3, H⟩ := ob_ H
 try dsimp only at H
 by_cases c4 : t799 = true
 ·subst c4
  have H1 : ((pair_Halves.f a0).bind fun bt800 => ((l05_just.f k bt800.1 bt800.2 a1_0 l1_1 a1_2).bind fun t803 => ((l05_finite.f k bt800.1).bind fun bt804 => ((l05_finite.f k bt800.2).bind fun bt811 => (if t803 = true then (if bt804.2.2.2 = true then (if bt811.2.2.2 = true then ((r02_Len.f k bt804.2.1).bind fun t818 => (if t818 ≤ 26 then ((r02_Len.f k bt811.2.1).bind fun t819 => (some (decide (t819 ≤ 26)))) else (none))) else (none)) else (none)) else (none)))))) = some r := by rw [if_pos rfl] at H; exact H
  clear H
  have H := H1
  clear H1
  obtain ⟨⟨t800, t801⟩, A5, H⟩ := ob_ H
  try dsimp only at H
  obtain ⟨t803, A6, H⟩ := ob_ H
  try dsimp only at H
  obtain ⟨⟨t804, t805, t808, t809⟩, A7, H⟩ := ob_ H
  try dsimp only at H
  obtain ⟨⟨t811, t812, t815, t816⟩, A8, H⟩ := ob_ H
  try dsimp only at H
  by_cases c9 : t803 = true
  ·subst c9
   have H1 : (if t809 = true then (if t816 = true then ((r02_Len.f k t805).bind fun t818 => (if t818 ≤ 26 then ((r02_Len.f k t812).bind fun t819 => (some (decide (t819 ≤ 26)))) else (none))) else (none)) else (none)) = some r := by rw [if_pos rfl] at H; exact H
   clear H
   have H := H1
   clear H1
   by_cases c10 : t809 = true
   ·subst c10
    have H1 : (if t816 = true then ((r02_Len.f k t805).bind fun t818 => (if t818 ≤ 26 then ((r02_Len.f k t812).bind fun t819 => (some (decide (t819 ≤ 26)))) else (none))) else (none)) = some r := by rw [if_pos rfl] at H; exact H
    clear H
    have H := H1
    clear H1
    by_cases c11 : t816 = true
    ·subst c11
     have H1 : ((r02_Len.f k t805).bind fun t818 => (if t818 ≤ 26 then ((r02_Len.f k t812).bind fun t819 => (some (decide (t819 ≤ 26)))) else (none))) = some r := by rw [if_pos rfl] at H; exact H
     clear H
     have H := H1
     clear H1
     obtain ⟨t818, A12, H⟩ := ob_ H
     try dsimp only at H
     by_cases c13 : t818 ≤ 26
     ·rw [if_pos c13] at H
      have c13b0 : decide (t818 ≤ 26) = true := decide_eq_true c13
      clear c13
      obtain ⟨t819, A14, H⟩ := ob_ H
      try dsimp only at H
      obtain rfl := Option.some.inj H
      go_enter Try.func31, Try.ntmps31
      go_wp2_with (first | ((with_reducible refine gate_dst (N := 3) rfl ?_); refine box_event ?hg (N := 3) ?hd (cs := #[.bool a1_0, .slice A1_1 l1_1.length c1_1, .int .i64 a1_2]) (t := 43) ?hr ?_; (case hd => rfl); (case hg => rfl); (case hr => first | (go_simp; done) | (go_simp; rfl)); intro gb798 hg w15 hbox hb; have n0_ := bs_ HB hb; have n1_ := Aside0.mk (hbox); have n2_ := ge_ HB hg; have n3_ := ge_ HB hg; clear HB; have HB := n0_; have BK798 := n1_; have GW798 := n2_; have GE798 := n3_; clear n0_ n1_ n2_ n3_; clear hb hbox hg; have hcz16_0 : w15.cell? ⟨gb798, 0, none⟩ = some (.bool a1_0) := (blk_cell BK798.out 0).trans rfl; have hcz16_1 : w15.cell? ⟨gb798, 1, none⟩ = some (.slice A1_1 l1_1.length c1_1) := (blk_cell BK798.out 1).trans rfl; have hcz16_2 : w15.cell? ⟨gb798, 2, none⟩ = some (.int .i64 a1_2) := (blk_cell BK798.out 2).trans rfl; have hfz16_0 := blk_frozen BK798.out 0; have hfz16_1 := blk_frozen BK798.out 1; have hfz16_2 := blk_frozen BK798.out 2) | ((with_reducible refine gate_callee (f := 51) rfl ?_); refine goesM (some 13) Try.func51 #[.agg #[.bool a1_0, .slice A1_1 l1_1.length c1_1, .int .i64 a1_2], .int .i64 995] ?_; (with_reducible refine (l05_within.calls k a1_0 _ _ l1_1 a1_2 995 true _ ?side1 ?side2 A3.out).mono ?_); (case side1 => repeat (first | exact (Kd.C_below HR1_1.out HB.out) | (with_reducible first | apply cA | apply cN | apply cD))); (case side2 => exact HC1_1.out); rintro e w17 ⟨rfl, hb⟩; refine ⟨_, rfl, ?_⟩; have n0_ := kb_ BK798 hb; have n1_ := bs_ HB hb; clear BK798; clear HB; have BK798 := n0_; have HB := n1_; clear n0_ n1_; (try clear hb); (try clear hb2); (try clear hk); (try clear hi)) | ((with_reducible refine gate_callee (f := 13) rfl ?_); refine goesM (some 17) Try.func13 #[.float .f64 a0] ?_; (with_reducible refine (pair_Halves.calls a0 t800 t801 _ A5.out).mono ?_); rintro e w18 ⟨rfl, hb⟩; refine ⟨_, rfl, ?_⟩; have n0_ := kb_ BK798 hb; have n1_ := bs_ HB hb; clear BK798; clear HB; have BK798 := n0_; have HB := n1_; clear n0_ n1_; (try clear hb); (try clear hb2); (try clear hk); (try clear hi)) | ((with_reducible refine gate_dst (N := 6) rfl ?_); refine box_event ?hg (N := 6) ?hd (cs := #[.float .f64 0, .float .f64 0]) (t := 30) ?hr ?_; (case hd => rfl); (case hg => rfl); (case hr => first | (go_simp; done) | (go_simp; rfl)); intro gb802 hg w19 hbox hb; have n0_ := kb_ BK798 hb; have n1_ := bs_ HB hb; have n2_ := Aside0.mk (hbox); have n3_ := ge_ HB hg; have n4_ := ge_ HB hg; have n5_ := nlt_ BK798 hg; have n6_ := ngt_ BK798 hg; clear BK798; clear HB; have BK798 := n0_; have HB := n1_; have BK802 := n2_; have GW802 := n3_; have GE802 := n4_; have NB798_802 := n5_; have NB802_798 := n6_; clear n0_ n1_ n2_ n3_ n4_ n5_ n6_; clear hb hbox hg; have hnb20 := NB802_798.out; have hnc20 := NB798_802.out; have hcz21_0 : w19.cell? ⟨gb802, 0, none⟩ = some (.float .f64 0) := (blk_cell BK802.out 0).trans rfl; have hcz21_1 : w19.cell? ⟨gb802, 1, none⟩ = some (.float .f64 0) := (blk_cell BK802.out 1).trans rfl; have hfz21_0 := blk_frozen BK802.out 0; have hfz21_1 := blk_frozen BK802.out 1; have hcz22_0 : w19.cell? ⟨gb798, 0, none⟩ = some (.bool a1_0) := (blk_cell BK798.out 0).trans rfl; have hcz22_1 : w19.cell? ⟨gb798, 1, none⟩ = some (.slice A1_1 l1_1.length c1_1) := (blk_cell BK798.out 1).trans rfl; have hcz22_2 : w19.cell? ⟨gb798, 2, none⟩ = some (.int .i64 a1_2) := (blk_cell BK798.out 2).trans rfl; have hfz22_0 := blk_frozen BK798.out 0; have hfz22_1 := blk_frozen BK798.out 1; have hfz22_2 := blk_frozen BK798.out 2) | ((with_reducible refine gate_callee (f := 52) rfl ?_); refine goesM (some 20) Try.func52 #[.agg #[.float .f64 t800, .float .f64 t801], .agg #[.bool a1_0, .slice A1_1 l1_1.length c1_1, .int .i64 a1_2]] ?_; (with_reducible refine (l05_just.calls k t800 t801 a1_0 _ _ l1_1 a1_2 true _ ?side1 ?side2 A6.out).mono ?_); (case side1 => exact Kd.C_below HR1_1.out (bl_ HB)); (case side2 => exact HC1_1.out); rintro e w23 ⟨rfl, hb⟩; refine ⟨_, rfl, ?_⟩; have n0_ := Aside0.mk (blk_below (g := gb798) (o := .cells #[.bool a1_0, .slice A1_1 l1_1.length c1_1, .int .i64 a1_2] 43 (0, 0)) (by (with_reducible repeat (first | apply bN | apply bD | apply bA)); refine blk_far ?_ NB798_802.out _; (with_reducible repeat (first | apply bN | apply bD | apply bA)); refine blk_far ?_ NB798_802.out _; exact bk_ BK798) hb); have n1_ := Aside0.mk (blk_below (g := gb802) (o := .cells #[.float .f64 t800, .float .f64 t801] 30 (0, 0)) (by (with_reducible repeat (first | apply bN | apply bD | apply bA)); refine blk_put (cs := #[.float .f64 t800, .float .f64 0]) ?_ 1 _ rfl; (with_reducible repeat (first | apply bN | apply bD | apply bA)); refine blk_put (cs := #[.float .f64 0, .float .f64 0]) ?_ 0 _ rfl; exact bk_ BK802) hb); have n2_ := bs_ HB hb; clear BK798; clear BK802; clear HB; have BK798 := n0_; have BK802 := n1_; have HB := n2_; clear n0_ n1_ n2_; (try clear hb); (try clear hb2); (try clear hk); (try clear hi); have hcz24_0 : w23.cell? ⟨gb802, 0, none⟩ = some (.float .f64 t800) := (blk_cell BK802.out 0).trans rfl; have hcz24_1 : w23.cell? ⟨gb802, 1, none⟩ = some (.float .f64 t801) := (blk_cell BK802.out 1).trans rfl; have hfz24_0 := blk_frozen BK802.out 0; have hfz24_1 := blk_frozen BK802.out 1) | ((with_reducible refine gate_callee (f := 29) rfl ?_); refine goesM (some 24) Try.func29 #[.float .f64 t800] ?_; (with_reducible refine (l05_finite.calls k t800 t804 t805 t808 true _ A7.out).mono ?_); rintro e w25 ⟨v806, rfl, ho0, hb⟩; refine ⟨_, rfl, ?_⟩; have n0_ := Aside0.mk (Kd.R_lower ho0 (below_size (bl_ HB))); have n1_ := kb_ BK798 hb; have n2_ := kb_ BK802 hb; have n3_ := bs_ HB hb; clear BK798; clear BK802; clear HB; have HO807 := n0_; have BK798 := n1_; have BK802 := n2_; have HB := n3_; clear n0_ n1_ n2_ n3_; (try clear hb); (try clear hb2); (try clear hk); (try clear hi); (try clear ho0)) | ((with_reducible refine gate_dst (N := 8) rfl ?_); refine box_event ?hg (N := 8) ?hd (cs := #[.bool false, .slice none 0 0, .int .i64 0]) (t := 43) ?hr ?_; (case hd => rfl); (case hg => rfl); (case hr => first | (go_simp; done) | (go_simp; rfl)); intro gb810 hg w26 hbox hb; have n0_ := Aside0.mk (Kd.R_below (rr_ HO807) hb); have n1_ := kb_ BK798 hb; have n2_ := kb_ BK802 hb; have n3_ := bs_ HB hb; have n4_ := Aside0.mk (hbox); have n5_ := ge_ HB hg; have n6_ := ge_ HB hg; have n7_ := nlt_ BK798 hg; have n8_ := ngt_ BK798 hg; have n9_ := nlt_ BK802 hg; have n10_ := ngt_ BK802 hg; clear HO807; clear BK798; clear BK802; clear HB; have HO807 := n0_; have BK798 := n1_; have BK802 := n2_; have HB := n3_; have BK810 := n4_; have GW810 := n5_; have GE810 := n6_; have NB798_810 := n7_; have NB810_798 := n8_; have NB802_810 := n9_; have NB810_802 := n10_; clear n0_ n1_ n2_ n3_ n4_ n5_ n6_ n7_ n8_ n9_ n10_; clear hb hbox hg; have hnb27 := NB810_798.out; have hnc27 := NB798_810.out; have hnb28 := NB810_802.out; have hnc28 := NB802_810.out; have hcz29_0 : w26.cell? ⟨gb810, 0, none⟩ = some (.bool false) := (blk_cell BK810.out 0).trans rfl; have hcz29_1 : w26.cell? ⟨gb810, 1, none⟩ = some (.slice none 0 0) := (blk_cell BK810.out 1).trans rfl; have hcz29_2 : w26.cell? ⟨gb810, 2, none⟩ = some (.int .i64 0) := (blk_cell BK810.out 2).trans rfl; have hfz29_0 := blk_frozen BK810.out 0; have hfz29_1 := blk_frozen BK810.out 1; have hfz29_2 := blk_frozen BK810.out 2; obtain ⟨Ao30, co30, eo30⟩ := Kd.R_slice HO807.out; subst eo30; have hcz31_0 : w26.cell? ⟨gb802, 0, none⟩ = some (.float .f64 t800) := (blk_cell BK802.out 0).trans rfl; have hcz31_1 : w26.cell? ⟨gb802, 1, none⟩ = some (.float .f64 t801) := (blk_cell BK802.out 1).trans rfl; have hfz31_0 := blk_frozen BK802.out 0; have hfz31_1 := blk_frozen BK802.out 1) | ((with_reducible refine gate_callee (f := 29) rfl ?_); refine goesM (some 30) Try.func29 #[.float .f64 t801] ?_; (with_reducible refine (l05_finite.calls k t801 t811 t812 t815 true _ A8.out).mono ?_); rintro e w32 ⟨v813, rfl, ho0, hb⟩; refine ⟨_, rfl, ?_⟩; have n0_ := Aside0.mk (Kd.R_elder' (by (with_reducible repeat (first | apply rA | apply rN | apply rD)); exact (Kd.R_mono (Kd.R_far (p := ⟨gb810, 2, none⟩) (Kd.R_far (p := ⟨gb810, 1, none⟩) (Kd.R_far (p := ⟨gb810, 0, none⟩) (Kd.R_types HO807.out BK810.out (by decide)) (fun _ hk => hk.2) (.bool t804)) (fun _ hk => hk.2) (.slice Ao30 t805.length co30)) (fun _ hk => hk.2) (.int .i64 t808)) (fun _ h_ => h_.1))) (Kd.R_base ho0) hb); have n1_ := Aside0.mk (Kd.R_lower (Kd.R_new' ho0 (Kd.R_lt (by (with_reducible repeat (first | apply rA | apply rN | apply rD)); exact (Kd.R_mono (Kd.R_far (p := ⟨gb810, 2, none⟩) (Kd.R_far (p := ⟨gb810, 1, none⟩) (Kd.R_far (p := ⟨gb810, 0, none⟩) (Kd.R_types HO807.out BK810.out (by decide)) (fun _ hk => hk.2) (.bool t804)) (fun _ hk => hk.2) (.slice Ao30 t805.length co30)) (fun _ hk => hk.2) (.int .i64 t808)) (fun _ h_ => h_.1))))) (below_size (bl_ HB))); have n2_ := Aside0.mk (blk_below (g := gb798) (o := .cells #[.bool a1_0, .slice A1_1 l1_1.length c1_1, .int .i64 a1_2] 43 (0, 0)) (by (with_reducible repeat (first | apply bN | apply bD | apply bA)); refine blk_far ?_ NB798_810.out _; (with_reducible repeat (first | apply bN | apply bD | apply bA)); refine blk_far ?_ NB798_810.out _; (with_reducible repeat (first | apply bN | apply bD | apply bA)); refine blk_far ?_ NB798_810.out _; exact bk_ BK798) hb); have n3_ := Aside0.mk (blk_below (g := gb802) (o := .cells #[.float .f64 t800, .float .f64 t801] 30 (0, 0)) (by (with_reducible repeat (first | apply bN | apply bD | apply bA)); refine blk_far ?_ NB802_810.out _; (with_reducible repeat (first | apply bN | apply bD | apply bA)); refine blk_far ?_ NB802_810.out _; (with_reducible repeat (first | apply bN | apply bD | apply bA)); refine blk_far ?_ NB802_810.out _; exact bk_ BK802) hb); have n4_ := Aside0.mk (blk_below (g := gb810) (o := .cells #[.bool t804, .slice Ao30 t805.length co30, .int .i64 t808] 43 (0, 0)) (by (with_reducible repeat (first | apply bN | apply bD | apply bA)); refine blk_put (cs := #[.bool t804, .slice Ao30 t805.length co30, .int .i64 0]) ?_ 2 _ rfl; (with_reducible repeat (first | apply bN | apply bD | apply bA)); refine blk_put (cs := #[.bool t804, .slice none 0 0, .int .i64 0]) ?_ 1 _ rfl; (with_reducible repeat (first | apply bN | apply bD | apply bA)); refine blk_put (cs := #[.bool false, .slice none 0 0, .int .i64 0]) ?_ 0 _ rfl; exact bk_ BK810) hb); have n5_ := bs_ HB hb; clear HO807; clear BK798; clear BK802; clear BK810; clear HB; have HO807 := n0_; have HO814 := n1_; have BK798 := n2_; have BK802 := n3_; have BK810 := n4_; have HB := n5_; clear n0_ n1_ n2_ n3_ n4_ n5_; (try clear hb); (try clear hb2); (try clear hk); (try clear hi); (try clear ho0)) | ((with_reducible refine gate_dst (N := 10) rfl ?_); refine box_event ?hg (N := 10) ?hd (cs := #[.bool false, .slice none 0 0, .int .i64 0]) (t := 43) ?hr ?_; (case hd => rfl); (case hg => rfl); (case hr => first | (go_simp; done) | (go_simp; rfl)); intro gb817 hg w33 hbox hb; have n0_ := Aside0.mk (Kd.R_below (rr_ HO807) hb); have n1_ := Aside0.mk (Kd.R_below (rr_ HO814) hb); have n2_ := kb_ BK798 hb; have n3_ := kb_ BK802 hb; have n4_ := kb_ BK810 hb; have n5_ := bs_ HB hb; have n6_ := Aside0.mk (hbox); have n7_ := ge_ HB hg; have n8_ := ge_ HB hg; have n9_ := nlt_ BK798 hg; have n10_ := ngt_ BK798 hg; have n11_ := nlt_ BK802 hg; have n12_ := ngt_ BK802 hg; have n13_ := nlt_ BK810 hg; have n14_ := ngt_ BK810 hg; clear HO807; clear HO814; clear BK798; clear BK802; clear BK810; clear HB; have HO807 := n0_; have HO814 := n1_; have BK798 := n2_; have BK802 := n3_; have BK810 := n4_; have HB := n5_; have BK817 := n6_; have GW817 := n7_; have GE817 := n8_; have NB798_817 := n9_; have NB817_798 := n10_; have NB802_817 := n11_; have NB817_802 := n12_; have NB810_817 := n13_; have NB817_810 := n14_; clear n0_ n1_ n2_ n3_ n4_ n5_ n6_ n7_ n8_ n9_ n10_ n11_ n12_ n13_ n14_; clear hb hbox hg; have hnb34 := NB817_798.out; have hnc34 := NB798_817.out; have hnb35 := NB817_802.out; have hnc35 := NB802_817.out; have hnb36 := NB817_810.out; have hnc36 := NB810_817.out; have hcz37_0 : w33.cell? ⟨gb817, 0, none⟩ = some (.bool false) := (blk_cell BK817.out 0).trans rfl; have hcz37_1 : w33.cell? ⟨gb817, 1, none⟩ = some (.slice none 0 0) := (blk_cell BK817.out 1).trans rfl; have hcz37_2 : w33.cell? ⟨gb817, 2, none⟩ = some (.int .i64 0) := (blk_cell BK817.out 2).trans rfl; have hfz37_0 := blk_frozen BK817.out 0; have hfz37_1 := blk_frozen BK817.out 1; have hfz37_2 := blk_frozen BK817.out 2; obtain ⟨Ao38, co38, eo38⟩ := Kd.R_slice HO814.out; subst eo38; have hcz39_0 : w33.cell? ⟨gb810, 0, none⟩ = some (.bool t804) := (blk_cell BK810.out 0).trans rfl; have hcz39_1 : w33.cell? ⟨gb810, 1, none⟩ = some (.slice Ao30 t805.length co30) := (blk_cell BK810.out 1).trans rfl; have hcz39_2 : w33.cell? ⟨gb810, 2, none⟩ = some (.int .i64 t808) := (blk_cell BK810.out 2).trans rfl; have hfz39_0 := blk_frozen BK810.out 0; have hfz39_1 := blk_frozen BK810.out 1; have hfz39_2 := blk_frozen BK810.out 2) | (go_at_call 55; (with_reducible refine (r02_Len.calls k _ _ t805 t818 _ ?side1 ?side2 A12.out).mono ?_); (case side1 => refine (Kd.R_reads' (e := 72) (base := w.heap.size) (ok := fun k_ => (True ∧ some k_ ≠ (.slice Ao38 t812.length co38 : Value).ownBlock)) (n := t805.length) (c := co30) ?_).2.2; exact (by (with_reducible repeat (first | apply rA | apply rN | apply rD)); exact (Kd.R_mono (Kd.R_far (p := ⟨gb817, 2, none⟩) (Kd.R_far (p := ⟨gb817, 1, none⟩) (Kd.R_far (p := ⟨gb817, 0, none⟩) (Kd.R_types HO807.out BK817.out (by decide)) (fun _ hk => hk.2) (.bool t811)) (fun _ hk => hk.2) (.slice Ao38 t812.length co38)) (fun _ hk => hk.2) (.int .i64 t815)) (fun _ h_ => h_.1)))); (case side2 => exact (Kd.R_reads' HO807.out).2.1); rintro e w' ⟨rfl, ⟨nd, rfl⟩⟩) | (go_at_call 55; (with_reducible refine (r02_Len.calls k _ _ t812 t819 _ ?side1 ?side2 A14.out).mono ?_); (case side1 => refine (Kd.R_reads' (e := 72) (base := w.heap.size) (ok := fun k_ => (True ∧ some k_ ≠ (.slice Ao30 t805.length co30 : Value).ownBlock)) (n := t812.length) (c := co38) ?_).2.2; exact (by (with_reducible repeat (first | apply rA | apply rN | apply rD)); exact (Kd.R_mono (Kd.R_far (p := ⟨gb817, 2, none⟩) (Kd.R_far (p := ⟨gb817, 1, none⟩) (Kd.R_far (p := ⟨gb817, 0, none⟩) (Kd.R_types HO814.out BK817.out (by decide)) (fun _ hk => hk.2) (.bool t811)) (fun _ hk => hk.2) (.slice Ao38 t812.length co38)) (fun _ hk => hk.2) (.int .i64 t815)) (fun _ h_ => h_.1)))); (case side2 => exact (Kd.R_reads' HO814.out).2.1); rintro e w' ⟨rfl, ⟨nd, rfl⟩⟩))
      go_ret
      exact ⟨by first | rfl | (simp [errW_none, errW_some] <;> rfl) | (simp [*, errW_none, errW_some] <;> rfl), bl_ HB⟩
     ·rw [if_neg c13] at H
      exact absurd H (by simp)
    ·replace c11 := Bool.eq_false_iff.mpr c11
     subst c11
     have H1 : (none) = some r := by rw [if_neg (show ¬ (false = true) by decide)] at H; exact H
     clear H
     have H := H1
     clear H1
     exact absurd H (by simp)
   ·replace c10 := Bool.eq_false_iff.mpr c10
    subst c10
    have H1 : (none) = some r := by rw [if_neg (show ¬ (false = true) by decide)] at H; exact H
    clear H
    have H := H1
    clear H1
    exact absurd H (by simp)
  ·replace c9 := Bool.eq_false_iff.mpr c9
   subst c9
   have H1 : (none) = some r := by rw [if_neg (show ¬ (false = true) by decide)] at H; exact H
   clear H
   have H := H1
   clear H1
   exact absurd H (by simp)
 ·replace c4 := Bool.eq_false_iff.mpr c4
  subst c4
  have H1 : (some true) = some r := by rw [if_neg (show ¬ (false = true) by decide)] at H; exact H
  clear H
  have H := H1
  clear H1
  obtain rfl := Option.some.inj H
  go_enter Try.func31, Try.ntmps31
  go_wp2_with (first | ((with_reducible refine gate_dst (N := 3) rfl ?_); refine box_event ?hg (N := 3) ?hd (cs := #[.bool a1_0, .slice A1_1 l1_1.length c1_1, .int .i64 a1_2]) (t := 43) ?hr ?_; (case hd => rfl); (case hg => rfl); (case hr => first | (go_simp; done) | (go_simp; rfl)); intro gb798 hg w40 hbox hb; have n0_ := bs_ HB hb; have n1_ := Aside0.mk (hbox); have n2_ := ge_ HB hg; have n3_ := ge_ HB hg; clear HB; have HB := n0_; have BK798 := n1_; have GW798 := n2_; have GE798 := n3_; clear n0_ n1_ n2_ n3_; clear hb hbox hg; have hcz41_0 : w40.cell? ⟨gb798, 0, none⟩ = some (.bool a1_0) := (blk_cell BK798.out 0).trans rfl; have hcz41_1 : w40.cell? ⟨gb798, 1, none⟩ = some (.slice A1_1 l1_1.length c1_1) := (blk_cell BK798.out 1).trans rfl; have hcz41_2 : w40.cell? ⟨gb798, 2, none⟩ = some (.int .i64 a1_2) := (blk_cell BK798.out 2).trans rfl; have hfz41_0 := blk_frozen BK798.out 0; have hfz41_1 := blk_frozen BK798.out 1; have hfz41_2 := blk_frozen BK798.out 2) | ((with_reducible refine gate_callee (f := 51) rfl ?_); refine goesM (some 13) Try.func51 #[.agg #[.bool a1_0, .slice A1_1 l1_1.length c1_1, .int .i64 a1_2], .int .i64 995] ?_; (with_reducible refine (l05_within.calls k a1_0 _ _ l1_1 a1_2 995 false _ ?side1 ?side2 A3.out).mono ?_); (case side1 => repeat (first | exact (Kd.C_below HR1_1.out HB.out) | (with_reducible first | apply cA | apply cN | apply cD))); (case side2 => exact HC1_1.out); rintro e w42 ⟨rfl, hb⟩; refine ⟨_, rfl, ?_⟩; have n0_ := kb_ BK798 hb; have n1_ := bs_ HB hb; clear BK798; clear HB; have BK798 := n0_; have HB := n1_; clear n0_ n1_; (try clear hb); (try clear hb2); (try clear hk); (try clear hi)))
  go_ret
  exact ⟨by first | rfl | (simp [errW_none, errW_some] <;> rfl) | (simp [*, errW_none, errW_some] <;> rfl), bl_ HB⟩

end Go.Proofs.Ytdemanikmaafeaa.Pr
