import Derived.Test.YtdemanikmaafeaaPairStepsM0
import Derived.Test.YtdemanikmaafeaaPairStepsM2
import Derived.Test.YtdemanikmaafeaaPairStepsM1
-- written by this session's own program (wip/fprint.py), which widens the kit's print by floats
namespace Go.Proofs.Ytdemanikmaafeaa.Pr
open Go.RowKit Go.Proofs.YtdemanikmaafeaaW.PrintWords Go.Proofs.YtdemanikmaafeaaW.PrintLast Go.Proofs.YtdemanikmaafeaaW.PrintMore
attribute [local go_sem] max2_int min2_int max_two min_two max_three min_three max_four min_four   -- for this text's walks alone
set_option linter.unusedVariables false
set_option linter.unusedSimpArgs false

/-! ### r05_Sum: function 17 -/
def r05_Sum.f (k : Nat) (a0 : Nat) (a1 : Nat) : Option (Nat × Nat) := (r05_Plus.f k a0 a1).bind fun t543 => ((r05_Minus.f k t543 a0).bind fun t544 => ((r05_Minus.f k t543 t544).bind fun t545 => ((r05_Minus.f k a0 t545).bind fun t546 => ((r05_Minus.f k a1 t544).bind fun t547 => ((r05_Plus.f k t546 t547).bind fun t548 => (some (t543, t548)))))))
theorem r05_Sum.mono : ∀ a0 a1 k, LeO (r05_Sum.f k a0 a1) (r05_Sum.f (k + 1) a0 a1) := by
 intro a0 a1 k
 unfold r05_Sum.f
 repeat' first
   | (with_reducible exact r05_Minus.mono _ _ _)
   | (with_reducible exact r05_Plus.mono _ _ _)
   | (with_reducible exact LeO.refl _)
   | (with_reducible exact LeO.none _)
   | (with_reducible refine LeO.ite ?_ ?_)
   | (with_reducible refine LeO.bind ?_ (fun _ => ?_))
   | exact r05_Minus.mono _ _ _
   | exact r05_Plus.mono _ _ _
   | exact LeO.none _
   | refine LeO.ite ?_ ?_
   | refine LeO.bind ?_ (fun _ => ?_)
set_option maxHeartbeats 3000000 in
set_option maxRecDepth 100000 in
theorem r05_Sum.calls (k : Nat) (a0 : Nat) (a1 : Nat) (r1 : Nat) (r2 : Nat) (w : World) (h : r05_Sum.f k a0 a1 = some (r1, r2)) :
  Calls Try.prog 17 #[.float .f64 a0, .float .f64 a1] w fun e w' => e = .returned (.agg #[.float .f64 r1, .float .f64 r2]) ∧ Below w.heap.size w w' := by
 have hu30 := Try.underlying30
 have HB := Aside0.mk (Below.refl w.heap.size w)
 have H : ((r05_Plus.f k a0 a1).bind fun t543 => ((r05_Minus.f k t543 a0).bind fun t544 => ((r05_Minus.f k t543 t544).bind fun t545 => ((r05_Minus.f k a0 t545).bind fun t546 => ((r05_Minus.f k a1 t544).bind fun t547 => ((r05_Plus.f k t546 t547).bind fun t548 => (some (t543, t548)))))))) = some (r1, r2) := h
 clear h
 obtain ⟨t543, A3, H⟩ := ob_ H
 try dsimp only at H
 obtain ⟨t544, A4, H⟩ := ob_ H
 try dsimp only at H
 obtain ⟨t545, A5, H⟩ := ob_ H
 try dsimp only at H
 obtain ⟨t546, A6, H⟩ := ob_ H
 try dsimp only at H
 obtain ⟨t547, A7, H⟩ := ob_ H
 try dsimp only at H
 obtain ⟨t548, A8, H⟩ := ob_ H
 try dsimp only at H
 simp only [Option.some.injEq, Prod.mk.injEq] at H
 obtain ⟨rfl, rfl⟩ := H
 go_enter Try.func17, Try.ntmps17
 go_wp2_with (first | ((with_reducible refine gate_dst (N := 4) rfl ?_); refine box_event ?hg (N := 4) ?hd (cs := #[.float .f64 0, .float .f64 0]) (t := 30) ?hr ?_; (case hd => rfl); (case hg => rfl); (case hr => first | (go_simp; done) | (go_simp; rfl)); intro gb542 hg w9 hbox hb; have n0_ := bs_ HB hb; have n1_ := Aside0.mk (hbox); have n2_ := ge_ HB hg; have n3_ := ge_ HB hg; clear HB; have HB := n0_; have BK542 := n1_; have GW542 := n2_; have GE542 := n3_; clear n0_ n1_ n2_ n3_; clear hb hbox hg) | ((with_reducible refine gate_callee (f := 43) rfl ?_); refine goesM (some 13) Try.func43 #[.float .f64 a0, .float .f64 a1] ?_; (with_reducible refine (r05_Plus.calls k a0 a1 t543 _ A3.out).mono ?_); rintro e w10 ⟨rfl, hb⟩; refine ⟨_, rfl, ?_⟩; have n0_ := kb_ BK542 hb; have n1_ := bs_ HB hb; clear BK542; clear HB; have BK542 := n0_; have HB := n1_; clear n0_ n1_; (try clear hb); (try clear hb2); (try clear hk); (try clear hi)) | ((with_reducible refine gate_callee (f := 44) rfl ?_); refine goesM (some 16) Try.func44 #[.float .f64 t543, .float .f64 a0] ?_; (with_reducible refine (r05_Minus.calls k t543 a0 t544 _ A4.out).mono ?_); rintro e w11 ⟨rfl, hb⟩; refine ⟨_, rfl, ?_⟩; have n0_ := kb_ BK542 hb; have n1_ := bs_ HB hb; clear BK542; clear HB; have BK542 := n0_; have HB := n1_; clear n0_ n1_; (try clear hb); (try clear hb2); (try clear hk); (try clear hi)) | ((with_reducible refine gate_callee (f := 44) rfl ?_); refine goesM (some 19) Try.func44 #[.float .f64 t543, .float .f64 t544] ?_; (with_reducible refine (r05_Minus.calls k t543 t544 t545 _ A5.out).mono ?_); rintro e w12 ⟨rfl, hb⟩; refine ⟨_, rfl, ?_⟩; have n0_ := kb_ BK542 hb; have n1_ := bs_ HB hb; clear BK542; clear HB; have BK542 := n0_; have HB := n1_; clear n0_ n1_; (try clear hb); (try clear hb2); (try clear hk); (try clear hi)) | ((with_reducible refine gate_callee (f := 44) rfl ?_); refine goesM (some 22) Try.func44 #[.float .f64 a0, .float .f64 t545] ?_; (with_reducible refine (r05_Minus.calls k a0 t545 t546 _ A6.out).mono ?_); rintro e w13 ⟨rfl, hb⟩; refine ⟨_, rfl, ?_⟩; have n0_ := kb_ BK542 hb; have n1_ := bs_ HB hb; clear BK542; clear HB; have BK542 := n0_; have HB := n1_; clear n0_ n1_; (try clear hb); (try clear hb2); (try clear hk); (try clear hi)) | ((with_reducible refine gate_callee (f := 44) rfl ?_); refine goesM (some 25) Try.func44 #[.float .f64 a1, .float .f64 t544] ?_; (with_reducible refine (r05_Minus.calls k a1 t544 t547 _ A7.out).mono ?_); rintro e w14 ⟨rfl, hb⟩; refine ⟨_, rfl, ?_⟩; have n0_ := kb_ BK542 hb; have n1_ := bs_ HB hb; clear BK542; clear HB; have BK542 := n0_; have HB := n1_; clear n0_ n1_; (try clear hb); (try clear hb2); (try clear hk); (try clear hi)) | ((with_reducible refine gate_callee (f := 43) rfl ?_); refine goesM (some 28) Try.func43 #[.float .f64 t546, .float .f64 t547] ?_; (with_reducible refine (r05_Plus.calls k t546 t547 t548 _ A8.out).mono ?_); rintro e w15 ⟨rfl, hb⟩; refine ⟨_, rfl, ?_⟩; have n0_ := kb_ BK542 hb; have n1_ := bs_ HB hb; clear BK542; clear HB; have BK542 := n0_; have HB := n1_; clear n0_ n1_; (try clear hb); (try clear hb2); (try clear hk); (try clear hi); have hcz16_0 : w15.cell? ⟨gb542, 0, none⟩ = some (.float .f64 0) := (blk_cell BK542.out 0).trans rfl; have hcz16_1 : w15.cell? ⟨gb542, 1, none⟩ = some (.float .f64 0) := (blk_cell BK542.out 1).trans rfl; have hfz16_0 := blk_frozen BK542.out 0; have hfz16_1 := blk_frozen BK542.out 1))
 refine bodyPost_ret (results_cell_row rfl _ _ gb542 30 #[.float .f64 t543, .float .f64 t548] (0, 0) _ rfl (by (with_reducible repeat (first | apply bN | apply bD | apply bA)); refine blk_put (cs := #[.float .f64 t543, .float .f64 0]) ?_ 1 _ rfl; (with_reducible repeat (first | apply bN | apply bD | apply bA)); refine blk_put (cs := #[.float .f64 0, .float .f64 0]) ?_ 0 _ rfl; exact bk_ BK542) Try.underlying30 rfl (by kernel_rfl)) rfl ?_
 exact ⟨by first | rfl | (simp [errW_none, errW_some] <;> rfl) | (simp [*, errW_none, errW_some] <;> rfl), bl_ HB⟩

/-! ### r05_Quick: function 19 -/
def r05_Quick.f (k : Nat) (a0 : Nat) (a1 : Nat) : Option (Nat × Nat) := (r05_Plus.f k a0 a1).bind fun t550 => ((r05_Minus.f k t550 a0).bind fun t551 => ((r05_Minus.f k a1 t551).bind fun t552 => (some (t550, t552))))
theorem r05_Quick.mono : ∀ a0 a1 k, LeO (r05_Quick.f k a0 a1) (r05_Quick.f (k + 1) a0 a1) := by
 intro a0 a1 k
 unfold r05_Quick.f
 repeat' first
   | (with_reducible exact r05_Minus.mono _ _ _)
   | (with_reducible exact r05_Plus.mono _ _ _)
   | (with_reducible exact LeO.refl _)
   | (with_reducible exact LeO.none _)
   | (with_reducible refine LeO.ite ?_ ?_)
   | (with_reducible refine LeO.bind ?_ (fun _ => ?_))
   | exact r05_Minus.mono _ _ _
   | exact r05_Plus.mono _ _ _
   | exact LeO.none _
   | refine LeO.ite ?_ ?_
   | refine LeO.bind ?_ (fun _ => ?_)
set_option maxHeartbeats 3000000 in
set_option maxRecDepth 100000 in
theorem r05_Quick.calls (k : Nat) (a0 : Nat) (a1 : Nat) (r1 : Nat) (r2 : Nat) (w : World) (h : r05_Quick.f k a0 a1 = some (r1, r2)) :
  Calls Try.prog 19 #[.float .f64 a0, .float .f64 a1] w fun e w' => e = .returned (.agg #[.float .f64 r1, .float .f64 r2]) ∧ Below w.heap.size w w' := by
 have hu30 := Try.underlying30
 have HB := Aside0.mk (Below.refl w.heap.size w)
 have H : ((r05_Plus.f k a0 a1).bind fun t550 => ((r05_Minus.f k t550 a0).bind fun t551 => ((r05_Minus.f k a1 t551).bind fun t552 => (some (t550, t552))))) = some (r1, r2) := h
 clear h
 obtain ⟨t550, A3, H⟩ := ob_ H
 try dsimp only at H
 obtain ⟨t551, A4, H⟩ := ob_ H
 try dsimp only at H
 obtain ⟨t552, A5, H⟩ := ob_ H
 try dsimp only at H
 simp only [Option.some.injEq, Prod.mk.injEq] at H
 obtain ⟨rfl, rfl⟩ := H
 go_enter Try.func19, Try.ntmps19
 go_wp2_with (first | ((with_reducible refine gate_dst (N := 4) rfl ?_); refine box_event ?hg (N := 4) ?hd (cs := #[.float .f64 0, .float .f64 0]) (t := 30) ?hr ?_; (case hd => rfl); (case hg => rfl); (case hr => first | (go_simp; done) | (go_simp; rfl)); intro gb549 hg w6 hbox hb; have n0_ := bs_ HB hb; have n1_ := Aside0.mk (hbox); have n2_ := ge_ HB hg; have n3_ := ge_ HB hg; clear HB; have HB := n0_; have BK549 := n1_; have GW549 := n2_; have GE549 := n3_; clear n0_ n1_ n2_ n3_; clear hb hbox hg) | ((with_reducible refine gate_callee (f := 43) rfl ?_); refine goesM (some 10) Try.func43 #[.float .f64 a0, .float .f64 a1] ?_; (with_reducible refine (r05_Plus.calls k a0 a1 t550 _ A3.out).mono ?_); rintro e w7 ⟨rfl, hb⟩; refine ⟨_, rfl, ?_⟩; have n0_ := kb_ BK549 hb; have n1_ := bs_ HB hb; clear BK549; clear HB; have BK549 := n0_; have HB := n1_; clear n0_ n1_; (try clear hb); (try clear hb2); (try clear hk); (try clear hi)) | ((with_reducible refine gate_callee (f := 44) rfl ?_); refine goesM (some 13) Try.func44 #[.float .f64 t550, .float .f64 a0] ?_; (with_reducible refine (r05_Minus.calls k t550 a0 t551 _ A4.out).mono ?_); rintro e w8 ⟨rfl, hb⟩; refine ⟨_, rfl, ?_⟩; have n0_ := kb_ BK549 hb; have n1_ := bs_ HB hb; clear BK549; clear HB; have BK549 := n0_; have HB := n1_; clear n0_ n1_; (try clear hb); (try clear hb2); (try clear hk); (try clear hi)) | ((with_reducible refine gate_callee (f := 44) rfl ?_); refine goesM (some 16) Try.func44 #[.float .f64 a1, .float .f64 t551] ?_; (with_reducible refine (r05_Minus.calls k a1 t551 t552 _ A5.out).mono ?_); rintro e w9 ⟨rfl, hb⟩; refine ⟨_, rfl, ?_⟩; have n0_ := kb_ BK549 hb; have n1_ := bs_ HB hb; clear BK549; clear HB; have BK549 := n0_; have HB := n1_; clear n0_ n1_; (try clear hb); (try clear hb2); (try clear hk); (try clear hi); have hcz10_0 : w9.cell? ⟨gb549, 0, none⟩ = some (.float .f64 0) := (blk_cell BK549.out 0).trans rfl; have hcz10_1 : w9.cell? ⟨gb549, 1, none⟩ = some (.float .f64 0) := (blk_cell BK549.out 1).trans rfl; have hfz10_0 := blk_frozen BK549.out 0; have hfz10_1 := blk_frozen BK549.out 1))
 refine bodyPost_ret (results_cell_row rfl _ _ gb549 30 #[.float .f64 t550, .float .f64 t552] (0, 0) _ rfl (by (with_reducible repeat (first | apply bN | apply bD | apply bA)); refine blk_put (cs := #[.float .f64 t550, .float .f64 0]) ?_ 1 _ rfl; (with_reducible repeat (first | apply bN | apply bD | apply bA)); refine blk_put (cs := #[.float .f64 0, .float .f64 0]) ?_ 0 _ rfl; exact bk_ BK549) Try.underlying30 rfl (by kernel_rfl)) rfl ?_
 exact ⟨by first | rfl | (simp [errW_none, errW_some] <;> rfl) | (simp [*, errW_none, errW_some] <;> rfl), bl_ HB⟩

end Go.Proofs.Ytdemanikmaafeaa.Pr
-- written by this session's own program (wip/fprint.py), which widens the kit's print by floats
namespace Go.Proofs.Ytdemanikmaafeaa.Pr
open Go.RowKit Go.Proofs.YtdemanikmaafeaaW.PrintWords Go.Proofs.YtdemanikmaafeaaW.PrintLast Go.Proofs.YtdemanikmaafeaaW.PrintMore
attribute [local go_sem] max2_int min2_int max_two min_two max_three min_three max_four min_four   -- for this text's walks alone
set_option linter.unusedVariables false
set_option linter.unusedSimpArgs false

/-! ### r03_Mul: function 36 -/
def r03_Mul.j0 : Nat → Bool → Bool → List Int → Int → Bool → List Int → Int → Option (Bool × List Int × Int × Int)
 | 0, _, _, _, _, _, _, _ => none
 | k + 1, x25, x563000, x563001, x563002, x570000, x570001, x570002 => if x25 = true then (some (false, ([] : List Int), 0, 2)) else ((r02_Times.f k x563001 x570001).bind fun t570 => ((r03_told.f k (x563000 != x570000) t570 (wrap64 (x563002 + x570002))).bind fun bt573 => (some (bt573.1, bt573.2.1, bt573.2.2.1, bt573.2.2.2))))
def r03_Mul.f (k : Nat) (a0_0 : Bool) (l0_1 : List Int) (a0_2 : Int) (a1_0 : Bool) (l1_1 : List Int) (a1_2 : Int) : Option (Bool × List Int × Int × Int) := (r03_Made.f k a0_0 l0_1 a0_2).bind fun bt556 => ((r03_Made.f k a1_0 l1_1 a1_2).bind fun bt563 => (if bt556.2.2.2 = true then (r03_Mul.j0 k (!bt563.2.2.2) bt556.1 bt556.2.1 bt556.2.2.1 bt563.1 bt563.2.1 bt563.2.2.1) else (r03_Mul.j0 k true bt556.1 bt556.2.1 bt556.2.2.1 bt563.1 bt563.2.1 bt563.2.2.1)))
theorem r03_Mul.mono_l : ∀ k, (∀ y0 y1 y2 y3 y4 y5 y6, LeO (r03_Mul.j0 k y0 y1 y2 y3 y4 y5 y6) (r03_Mul.j0 (k + 1) y0 y1 y2 y3 y4 y5 y6))
 | 0 => fun _ _ _ _ _ _ _ r h => by simp [r03_Mul.j0] at h
 | k + 1 => by
  have ih0 := r03_Mul.mono_l k
  ·intro y0 y1 y2 y3 y4 y5 y6
   unfold r03_Mul.j0
   repeat' first
   | (with_reducible exact ih0 _ _ _ _ _ _ _)
   | (with_reducible exact r02_Times.mono _ _ _)
   | (with_reducible exact r03_Made.mono _ _ _ _)
   | (with_reducible exact r03_told.mono _ _ _ _)
   | (with_reducible exact LeO.refl _)
   | (with_reducible exact LeO.none _)
   | (with_reducible refine LeO.ite ?_ ?_)
   | (with_reducible refine LeO.bind ?_ (fun _ => ?_))
   | exact ih0 _ _ _ _ _ _ _
   | exact r02_Times.mono _ _ _
   | exact r03_Made.mono _ _ _ _
   | exact r03_told.mono _ _ _ _
   | exact LeO.none _
   | refine LeO.ite ?_ ?_
   | refine LeO.bind ?_ (fun _ => ?_)
theorem r03_Mul.mono : ∀ a0 a1 a2 a3 a4 a5 k, LeO (r03_Mul.f k a0 a1 a2 a3 a4 a5) (r03_Mul.f (k + 1) a0 a1 a2 a3 a4 a5) := by
 intro a0 a1 a2 a3 a4 a5 k
 have ih0 := r03_Mul.mono_l k
 unfold r03_Mul.f
 repeat' first
   | (with_reducible exact ih0 _ _ _ _ _ _ _)
   | (with_reducible exact r02_Times.mono _ _ _)
   | (with_reducible exact r03_Made.mono _ _ _ _)
   | (with_reducible exact r03_told.mono _ _ _ _)
   | (with_reducible exact LeO.refl _)
   | (with_reducible exact LeO.none _)
   | (with_reducible refine LeO.ite ?_ ?_)
   | (with_reducible refine LeO.bind ?_ (fun _ => ?_))
   | exact ih0 _ _ _ _ _ _ _
   | exact r02_Times.mono _ _ _
   | exact r03_Made.mono _ _ _ _
   | exact r03_told.mono _ _ _ _
   | exact LeO.none _
   | refine LeO.ite ?_ ?_
   | refine LeO.bind ?_ (fun _ => ?_)
def r03_Mul.T5 : Bool × List (List Nat × List Nat) := (true, [([], []), ([0], [0]), ([], []), ([2], [2]), ([1, 3], [1, 3]), ([], []), ([5], [5]), ([], []), ([7], [7]), ([6, 8], [6, 8]), ([], []), ([10], [10]), ([], []), ([12], [12]), ([11, 13], [11, 13]), ([4, 9, 14, 9], [4, 9, 14]), ([15], [15]), ([15], [15]), ([16, 15, 0, 1, 2, 3, 4, 5, 6, 7, 8, 9, 10, 11, 12, 13, 14, 15, 16, 17], [16]), ([17, 18, 0, 1, 2, 3, 4, 5, 6, 7, 8, 9, 10, 11, 12, 13, 14, 15, 16, 17, 18], [17])])
def r03_Mul.B5 : List Nat := [0, 1, 0, 4, 15, 0, 32, 0, 128, 480, 0, 1024, 0, 4096, 15360, 32767, 65535, 65535, 262143, 524287]
theorem r03_Mul.tab5 : rtab .any (opsOf Try.f36 5) = r03_Mul.T5 := by kernel_rfl
theorem r03_Mul.bits5 : waitsOk r03_Mul.T5.2 r03_Mul.B5 = true := by kernel_rfl
set_option maxHeartbeats 3000000 in
set_option maxRecDepth 100000 in
theorem r03_Mul.calls (k : Nat) (a0_0 : Bool) (A0_1 : Option Addr) (c0_1 : Nat) (l0_1 : List Int) (a0_2 : Int) (a1_0 : Bool) (A1_1 : Option Addr) (c1_1 : Nat) (l1_1 : List Int) (a1_2 : Int) (r1 : Bool) (r2 : List Int) (r3 : Int) (r4 : Int) (w : World) (hr0_1 : Kd.C (Kd.int .u32) w A0_1 l0_1.length l0_1) (hc0_1 : l0_1.length ≤ c0_1) (hr1_1 : Kd.C (Kd.int .u32) w A1_1 l1_1.length l1_1) (hc1_1 : l1_1.length ≤ c1_1) (h : r03_Mul.f k a0_0 l0_1 a0_2 a1_0 l1_1 a1_2 = some (r1, r2, r3, r4)) :
  Calls Try.prog 36 #[.agg #[.bool a0_0, .slice A0_1 l0_1.length c0_1, .int .i64 a0_2], .agg #[.bool a1_0, .slice A1_1 l1_1.length c1_1, .int .i64 a1_2]] w fun e w' => ∃ v1_ : Value, e = .returned (.tuple #[.agg #[.bool r1, v1_, .int .i64 r3], .int .i64 r4]) ∧ Kd.R (Kd.int .u32) 72 w' w.heap.size (fun _ => True) v1_ r2 ∧ Below w.heap.size w w' := by
 have hu43 := Try.underlying43
 have HR0_1 := Aside0.mk hr0_1
 have HC0_1 := Aside0.mk hc0_1
 clear hr0_1 hc0_1
 have HR1_1 := Aside0.mk hr1_1
 have HC1_1 := Aside0.mk hc1_1
 clear hr1_1 hc1_1
 have HB := Aside0.mk (Below.refl w.heap.size w)
 have H : ((r03_Made.f k a0_0 l0_1 a0_2).bind fun bt556 => ((r03_Made.f k a1_0 l1_1 a1_2).bind fun bt563 => (if bt556.2.2.2 = true then (r03_Mul.j0 k (!bt563.2.2.2) bt556.1 bt556.2.1 bt556.2.2.1 bt563.1 bt563.2.1 bt563.2.2.1) else (r03_Mul.j0 k true bt556.1 bt556.2.1 bt556.2.2.1 bt563.1 bt563.2.1 bt563.2.2.1)))) = some (r1, r2, r3, r4) := h
 clear h
 obtain ⟨⟨t556, t557, t560, t561⟩, A3, H⟩ := ob_ H
 try dsimp only at H
 obtain ⟨⟨t563, t564, t567, t568⟩, A4, H⟩ := ob_ H
 try dsimp only at H
 have HC5 := Aside0.mk H
 clear H
 go_enter Try.func36, Try.ntmps36
 go_upto_region 3 with (first | ((with_reducible refine gate_dst (N := 2) rfl ?_); refine box_event ?hg (N := 2) ?hd (cs := #[.bool a0_0, .slice A0_1 l0_1.length c0_1, .int .i64 a0_2]) (t := 43) ?hr ?_; (case hd => rfl); (case hg => rfl); (case hr => first | (go_simp; done) | (go_simp; rfl)); intro gb553 hg w6 hbox hb; have n0_ := bs_ HB hb; have n1_ := Aside0.mk (hbox); have n2_ := ge_ HB hg; have n3_ := ge_ HB hg; clear HB; have HB := n0_; have BK553 := n1_; have GW553 := n2_; have GE553 := n3_; clear n0_ n1_ n2_ n3_; clear hb hbox hg) | ((with_reducible refine gate_dst (N := 3) rfl ?_); refine box_event ?hg (N := 3) ?hd (cs := #[.bool a1_0, .slice A1_1 l1_1.length c1_1, .int .i64 a1_2]) (t := 43) ?hr ?_; (case hd => rfl); (case hg => rfl); (case hr => first | (go_simp; done) | (go_simp; rfl)); intro gb554 hg w7 hbox hb; have n0_ := kb_ BK553 hb; have n1_ := bs_ HB hb; have n2_ := Aside0.mk (hbox); have n3_ := ge_ HB hg; have n4_ := ge_ HB hg; have n5_ := nlt_ BK553 hg; have n6_ := ngt_ BK553 hg; clear BK553; clear HB; have BK553 := n0_; have HB := n1_; have BK554 := n2_; have GW554 := n3_; have GE554 := n4_; have NB553_554 := n5_; have NB554_553 := n6_; clear n0_ n1_ n2_ n3_ n4_ n5_ n6_; clear hb hbox hg) | ((with_reducible refine gate_dst (N := 4) rfl ?_); refine box_event ?hg (N := 4) ?hd (cs := #[.bool false, .slice none 0 0, .int .i64 0]) (t := 43) ?hr ?_; (case hd => rfl); (case hg => rfl); (case hr => first | (go_simp; done) | (go_simp; rfl)); intro gb555 hg w8 hbox hb; have n0_ := kb_ BK553 hb; have n1_ := kb_ BK554 hb; have n2_ := bs_ HB hb; have n3_ := Aside0.mk (hbox); have n4_ := ge_ HB hg; have n5_ := ge_ HB hg; have n6_ := nlt_ BK553 hg; have n7_ := ngt_ BK553 hg; have n8_ := nlt_ BK554 hg; have n9_ := ngt_ BK554 hg; clear BK553; clear BK554; clear HB; have BK553 := n0_; have BK554 := n1_; have HB := n2_; have BK555 := n3_; have GW555 := n4_; have GE555 := n5_; have NB553_555 := n6_; have NB555_553 := n7_; have NB554_555 := n8_; have NB555_554 := n9_; clear n0_ n1_ n2_ n3_ n4_ n5_ n6_ n7_ n8_ n9_; clear hb hbox hg; have hnb9 := NB553_554.out; have hnc9 := NB554_553.out; have hnb10 := NB553_555.out; have hnc10 := NB555_553.out; have hcz11_0 : w8.cell? ⟨gb553, 0, none⟩ = some (.bool a0_0) := (blk_cell BK553.out 0).trans rfl; have hcz11_1 : w8.cell? ⟨gb553, 1, none⟩ = some (.slice A0_1 l0_1.length c0_1) := (blk_cell BK553.out 1).trans rfl; have hcz11_2 : w8.cell? ⟨gb553, 2, none⟩ = some (.int .i64 a0_2) := (blk_cell BK553.out 2).trans rfl; have hfz11_0 := blk_frozen BK553.out 0; have hfz11_1 := blk_frozen BK553.out 1; have hfz11_2 := blk_frozen BK553.out 2) | ((with_reducible refine gate_callee (f := 57) rfl ?_); refine goesM (some 12) Try.func57 #[.agg #[.bool a0_0, .slice A0_1 l0_1.length c0_1, .int .i64 a0_2]] ?_; (with_reducible refine (r03_Made.calls k a0_0 _ _ l0_1 a0_2 t556 t557 t560 t561 _ ?side1 ?side2 A3.out).mono ?_); (case side1 => repeat (first | exact (Kd.C_below HR0_1.out HB.out) | (with_reducible first | apply cA | apply cN | apply cD))); (case side2 => exact HC0_1.out); rintro e w12 ⟨v558, rfl, ho0, hb⟩; refine ⟨_, rfl, ?_⟩; have n0_ := Aside0.mk (Kd.R_lower ho0 (below_size (bl_ HB))); have n1_ := kb_ BK553 hb; have n2_ := kb_ BK554 hb; have n3_ := kb_ BK555 hb; have n4_ := bs_ HB hb; clear BK553; clear BK554; clear BK555; clear HB; have HO559 := n0_; have BK553 := n1_; have BK554 := n2_; have BK555 := n3_; have HB := n4_; clear n0_ n1_ n2_ n3_ n4_; (try clear hb); (try clear hb2); (try clear hk); (try clear hi); (try clear ho0)) | ((with_reducible refine gate_dst (N := 6) rfl ?_); refine box_event ?hg (N := 6) ?hd (cs := #[.bool false, .slice none 0 0, .int .i64 0]) (t := 43) ?hr ?_; (case hd => rfl); (case hg => rfl); (case hr => first | (go_simp; done) | (go_simp; rfl)); intro gb562 hg w13 hbox hb; have n0_ := Aside0.mk (Kd.R_below (rr_ HO559) hb); have n1_ := kb_ BK553 hb; have n2_ := kb_ BK554 hb; have n3_ := kb_ BK555 hb; have n4_ := bs_ HB hb; have n5_ := Aside0.mk (hbox); have n6_ := ge_ HB hg; have n7_ := ge_ HB hg; have n8_ := nlt_ BK553 hg; have n9_ := ngt_ BK553 hg; have n10_ := nlt_ BK554 hg; have n11_ := ngt_ BK554 hg; have n12_ := nlt_ BK555 hg; have n13_ := ngt_ BK555 hg; clear HO559; clear BK553; clear BK554; clear BK555; clear HB; have HO559 := n0_; have BK553 := n1_; have BK554 := n2_; have BK555 := n3_; have HB := n4_; have BK562 := n5_; have GW562 := n6_; have GE562 := n7_; have NB553_562 := n8_; have NB562_553 := n9_; have NB554_562 := n10_; have NB562_554 := n11_; have NB555_562 := n12_; have NB562_555 := n13_; clear n0_ n1_ n2_ n3_ n4_ n5_ n6_ n7_ n8_ n9_ n10_ n11_ n12_ n13_; clear hb hbox hg; have hnb14 := NB562_553.out; have hnc14 := NB553_562.out; have hnb15 := NB562_554.out; have hnc15 := NB554_562.out; have hnb16 := NB562_555.out; have hnc16 := NB555_562.out; have hcz17_0 : w13.cell? ⟨gb562, 0, none⟩ = some (.bool false) := (blk_cell BK562.out 0).trans rfl; have hcz17_1 : w13.cell? ⟨gb562, 1, none⟩ = some (.slice none 0 0) := (blk_cell BK562.out 1).trans rfl; have hcz17_2 : w13.cell? ⟨gb562, 2, none⟩ = some (.int .i64 0) := (blk_cell BK562.out 2).trans rfl; have hfz17_0 := blk_frozen BK562.out 0; have hfz17_1 := blk_frozen BK562.out 1; have hfz17_2 := blk_frozen BK562.out 2; obtain ⟨Ao18, co18, eo18⟩ := Kd.R_slice HO559.out; subst eo18; have hnb19 := NB554_555.out; have hnc19 := NB555_554.out; have hcz20_0 : w13.cell? ⟨gb554, 0, none⟩ = some (.bool a1_0) := (blk_cell BK554.out 0).trans rfl; have hcz20_1 : w13.cell? ⟨gb554, 1, none⟩ = some (.slice A1_1 l1_1.length c1_1) := (blk_cell BK554.out 1).trans rfl; have hcz20_2 : w13.cell? ⟨gb554, 2, none⟩ = some (.int .i64 a1_2) := (blk_cell BK554.out 2).trans rfl; have hfz20_0 := blk_frozen BK554.out 0; have hfz20_1 := blk_frozen BK554.out 1; have hfz20_2 := blk_frozen BK554.out 2) | ((with_reducible refine gate_callee (f := 57) rfl ?_); refine goesM (some 17) Try.func57 #[.agg #[.bool a1_0, .slice A1_1 l1_1.length c1_1, .int .i64 a1_2]] ?_; (with_reducible refine (r03_Made.calls k a1_0 _ _ l1_1 a1_2 t563 t564 t567 t568 _ ?side1 ?side2 A4.out).mono ?_); (case side1 => exact Kd.C_below HR1_1.out (bl_ HB)); (case side2 => exact HC1_1.out); rintro e w21 ⟨v565, rfl, ho0, hb⟩; refine ⟨_, rfl, ?_⟩; have n0_ := Aside0.mk (Kd.R_elder' (by (with_reducible repeat (first | apply rA | apply rN | apply rD)); exact (Kd.R_mono (Kd.R_far (p := ⟨gb562, 2, none⟩) (Kd.R_far (p := ⟨gb562, 1, none⟩) (Kd.R_far (p := ⟨gb562, 0, none⟩) (Kd.R_types HO559.out BK562.out (by decide)) (fun _ hk => hk.2) (.bool t556)) (fun _ hk => hk.2) (.slice Ao18 t557.length co18)) (fun _ hk => hk.2) (.int .i64 t560)) (fun _ h_ => h_.1))) (Kd.R_base ho0) hb); have n1_ := Aside0.mk (Kd.R_lower (Kd.R_new' ho0 (Kd.R_lt (by (with_reducible repeat (first | apply rA | apply rN | apply rD)); exact (Kd.R_mono (Kd.R_far (p := ⟨gb562, 2, none⟩) (Kd.R_far (p := ⟨gb562, 1, none⟩) (Kd.R_far (p := ⟨gb562, 0, none⟩) (Kd.R_types HO559.out BK562.out (by decide)) (fun _ hk => hk.2) (.bool t556)) (fun _ hk => hk.2) (.slice Ao18 t557.length co18)) (fun _ hk => hk.2) (.int .i64 t560)) (fun _ h_ => h_.1))))) (below_size (bl_ HB))); have n2_ := Aside0.mk (blk_below (g := gb553) (o := .cells #[.bool a0_0, .slice A0_1 l0_1.length c0_1, .int .i64 a0_2] 43 (0, 0)) (by (with_reducible repeat (first | apply bN | apply bD | apply bA)); refine blk_far ?_ NB553_562.out _; (with_reducible repeat (first | apply bN | apply bD | apply bA)); refine blk_far ?_ NB553_562.out _; (with_reducible repeat (first | apply bN | apply bD | apply bA)); refine blk_far ?_ NB553_562.out _; exact bk_ BK553) hb); have n3_ := Aside0.mk (blk_below (g := gb554) (o := .cells #[.bool a1_0, .slice A1_1 l1_1.length c1_1, .int .i64 a1_2] 43 (0, 0)) (by (with_reducible repeat (first | apply bN | apply bD | apply bA)); refine blk_far ?_ NB554_562.out _; (with_reducible repeat (first | apply bN | apply bD | apply bA)); refine blk_far ?_ NB554_562.out _; (with_reducible repeat (first | apply bN | apply bD | apply bA)); refine blk_far ?_ NB554_562.out _; exact bk_ BK554) hb); have n4_ := Aside0.mk (blk_below (g := gb555) (o := .cells #[.bool false, .slice none 0 0, .int .i64 0] 43 (0, 0)) (by (with_reducible repeat (first | apply bN | apply bD | apply bA)); refine blk_far ?_ NB555_562.out _; (with_reducible repeat (first | apply bN | apply bD | apply bA)); refine blk_far ?_ NB555_562.out _; (with_reducible repeat (first | apply bN | apply bD | apply bA)); refine blk_far ?_ NB555_562.out _; exact bk_ BK555) hb); have n5_ := Aside0.mk (blk_below (g := gb562) (o := .cells #[.bool t556, .slice Ao18 t557.length co18, .int .i64 t560] 43 (0, 0)) (by (with_reducible repeat (first | apply bN | apply bD | apply bA)); refine blk_put (cs := #[.bool t556, .slice Ao18 t557.length co18, .int .i64 0]) ?_ 2 _ rfl; (with_reducible repeat (first | apply bN | apply bD | apply bA)); refine blk_put (cs := #[.bool t556, .slice none 0 0, .int .i64 0]) ?_ 1 _ rfl; (with_reducible repeat (first | apply bN | apply bD | apply bA)); refine blk_put (cs := #[.bool false, .slice none 0 0, .int .i64 0]) ?_ 0 _ rfl; exact bk_ BK562) hb); have n6_ := bs_ HB hb; clear HO559; clear BK553; clear BK554; clear BK555; clear BK562; clear HB; have HO559 := n0_; have HO566 := n1_; have BK553 := n2_; have BK554 := n3_; have BK555 := n4_; have BK562 := n5_; have HB := n6_; clear n0_ n1_ n2_ n3_ n4_ n5_ n6_; (try clear hb); (try clear hb2); (try clear hk); (try clear hi); (try clear ho0)) | ((with_reducible refine gate_dst (N := 8) rfl ?_); refine box_event ?hg (N := 8) ?hd (cs := #[.bool false, .slice none 0 0, .int .i64 0]) (t := 43) ?hr ?_; (case hd => rfl); (case hg => rfl); (case hr => first | (go_simp; done) | (go_simp; rfl)); intro gb569 hg w22 hbox hb; have n0_ := Aside0.mk (Kd.R_below (rr_ HO559) hb); have n1_ := Aside0.mk (Kd.R_below (rr_ HO566) hb); have n2_ := kb_ BK553 hb; have n3_ := kb_ BK554 hb; have n4_ := kb_ BK555 hb; have n5_ := kb_ BK562 hb; have n6_ := bs_ HB hb; have n7_ := Aside0.mk (hbox); have n8_ := ge_ HB hg; have n9_ := ge_ HB hg; have n10_ := nlt_ BK553 hg; have n11_ := ngt_ BK553 hg; have n12_ := nlt_ BK554 hg; have n13_ := ngt_ BK554 hg; have n14_ := nlt_ BK555 hg; have n15_ := ngt_ BK555 hg; have n16_ := nlt_ BK562 hg; have n17_ := ngt_ BK562 hg; clear HO559; clear HO566; clear BK553; clear BK554; clear BK555; clear BK562; clear HB; have HO559 := n0_; have HO566 := n1_; have BK553 := n2_; have BK554 := n3_; have BK555 := n4_; have BK562 := n5_; have HB := n6_; have BK569 := n7_; have GW569 := n8_; have GE569 := n9_; have NB553_569 := n10_; have NB569_553 := n11_; have NB554_569 := n12_; have NB569_554 := n13_; have NB555_569 := n14_; have NB569_555 := n15_; have NB562_569 := n16_; have NB569_562 := n17_; clear n0_ n1_ n2_ n3_ n4_ n5_ n6_ n7_ n8_ n9_ n10_ n11_ n12_ n13_ n14_ n15_ n16_ n17_; clear hb hbox hg; have hnb23 := NB569_553.out; have hnc23 := NB553_569.out; have hnb24 := NB569_554.out; have hnc24 := NB554_569.out; have hnb25 := NB569_555.out; have hnc25 := NB555_569.out; have hnb26 := NB569_562.out; have hnc26 := NB562_569.out; have hcz27_0 : w22.cell? ⟨gb569, 0, none⟩ = some (.bool false) := (blk_cell BK569.out 0).trans rfl; have hcz27_1 : w22.cell? ⟨gb569, 1, none⟩ = some (.slice none 0 0) := (blk_cell BK569.out 1).trans rfl; have hcz27_2 : w22.cell? ⟨gb569, 2, none⟩ = some (.int .i64 0) := (blk_cell BK569.out 2).trans rfl; have hfz27_0 := blk_frozen BK569.out 0; have hfz27_1 := blk_frozen BK569.out 1; have hfz27_2 := blk_frozen BK569.out 2; obtain ⟨Ao28, co28, eo28⟩ := Kd.R_slice HO566.out; subst eo28))
 (try simp only [Act.put, List.setIfInBounds_toArray, List.set_cons_zero, List.set_cons_succ])
 go_cut [25] (fun v25 wc => ∃ (kq : Nat) (x25_4 : Bool), v25 = .bool x25_4 ∧ Aside0 (r03_Mul.j0 kq x25_4 t556 t557 t560 t563 t564 t567 = some (r1, r2, r3, r4)) ∧ Aside0 (kq ≤ k) ∧ Aside0 (Kd.R (Kd.int .u32) 72 wc w.heap.size (fun k_ => some k_ ≠ ((.slice Ao28 t564.length co28) : Value).ownBlock) (.slice Ao18 t557.length co18) t557) ∧ Aside0 (Kd.R (Kd.int .u32) 72 wc w.heap.size (fun k_ => some k_ ≠ ((.slice Ao18 t557.length co18) : Value).ownBlock) (.slice Ao28 t564.length co28) t564) ∧ Aside0 (wc.heap[gb553]? = some (.cells #[.bool a0_0, (.slice A0_1 l0_1.length c0_1), .int .i64 a0_2] 43 (0, 0))) ∧ Aside0 (wc.heap[gb554]? = some (.cells #[.bool a1_0, (.slice A1_1 l1_1.length c1_1), .int .i64 a1_2] 43 (0, 0))) ∧ Aside0 (wc.heap[gb555]? = some (.cells #[.bool false, (.slice none 0 0), .int .i64 0] 43 (0, 0))) ∧ Aside0 (wc.heap[gb562]? = some (.cells #[.bool t556, (.slice Ao18 t557.length co18), .int .i64 t560] 43 (0, 0))) ∧ Aside0 (wc.heap[gb569]? = some (.cells #[.bool t563, (.slice Ao28 t564.length co28), .int .i64 t567] 43 (0, 0))) ∧ Aside0 (Below w.heap.size w wc))
 case first =>
  have H := HC5.out
  clear HC5
  by_cases c29 : t561 = true
  ·subst c29
   have H1 : (r03_Mul.j0 k (!t568) t556 t557 t560 t563 t564 t567) = some (r1, r2, r3, r4) := by rw [if_pos rfl] at H; exact H
   clear H
   have H := H1
   clear H1
   have H' := Aside0.mk H
   clear H
   go_wp2
   go_meet
   case rel => exact ⟨_, (!t568), (by first | rfl | (simp; done) | (simp [*]; done)), H', ⟨by first | omega | exact Nat.le_refl _⟩, ⟨by (with_reducible repeat (first | apply rA | apply rN | apply rD)); exact Kd.R_mono (Kd.R_far (p := ⟨gb569, 2, none⟩) (Kd.R_far (p := ⟨gb569, 1, none⟩) (Kd.R_far (p := ⟨gb569, 0, none⟩) (Kd.R_types HO559.out BK569.out (by decide)) (fun _ hk => hk.2) (.bool t563)) (fun _ hk => hk.2) (.slice Ao28 t564.length co28)) (fun _ hk => hk.2) (.int .i64 t567)) (fun _ hk => hk.1.2)⟩, ⟨by (with_reducible repeat (first | apply rA | apply rN | apply rD)); exact Kd.R_mono (Kd.R_far (p := ⟨gb569, 2, none⟩) (Kd.R_far (p := ⟨gb569, 1, none⟩) (Kd.R_far (p := ⟨gb569, 0, none⟩) (Kd.R_types HO566.out BK569.out (by decide)) (fun _ hk => hk.2) (.bool t563)) (fun _ hk => hk.2) (.slice Ao28 t564.length co28)) (fun _ hk => hk.2) (.int .i64 t567)) (fun _ hk => hk.1.2)⟩, ⟨by (with_reducible repeat (first | apply bN | apply bD | apply bA)); refine blk_far ?_ NB553_569.out _; (with_reducible repeat (first | apply bN | apply bD | apply bA)); refine blk_far ?_ NB553_569.out _; (with_reducible repeat (first | apply bN | apply bD | apply bA)); refine blk_far ?_ NB553_569.out _; exact bk_ BK553⟩, ⟨by (with_reducible repeat (first | apply bN | apply bD | apply bA)); refine blk_far ?_ NB554_569.out _; (with_reducible repeat (first | apply bN | apply bD | apply bA)); refine blk_far ?_ NB554_569.out _; (with_reducible repeat (first | apply bN | apply bD | apply bA)); refine blk_far ?_ NB554_569.out _; exact bk_ BK554⟩, ⟨by (with_reducible repeat (first | apply bN | apply bD | apply bA)); refine blk_far ?_ NB555_569.out _; (with_reducible repeat (first | apply bN | apply bD | apply bA)); refine blk_far ?_ NB555_569.out _; (with_reducible repeat (first | apply bN | apply bD | apply bA)); refine blk_far ?_ NB555_569.out _; exact bk_ BK555⟩, ⟨by (with_reducible repeat (first | apply bN | apply bD | apply bA)); refine blk_far ?_ NB562_569.out _; (with_reducible repeat (first | apply bN | apply bD | apply bA)); refine blk_far ?_ NB562_569.out _; (with_reducible repeat (first | apply bN | apply bD | apply bA)); refine blk_far ?_ NB562_569.out _; exact bk_ BK562⟩, ⟨by (with_reducible repeat (first | apply bN | apply bD | apply bA)); refine blk_put (cs := #[.bool t563, .slice Ao28 t564.length co28, .int .i64 0]) ?_ 2 _ rfl; (with_reducible repeat (first | apply bN | apply bD | apply bA)); refine blk_put (cs := #[.bool t563, .slice none 0 0, .int .i64 0]) ?_ 1 _ rfl; (with_reducible repeat (first | apply bN | apply bD | apply bA)); refine blk_put (cs := #[.bool false, .slice none 0 0, .int .i64 0]) ?_ 0 _ rfl; exact bk_ BK569⟩, ⟨bl_ HB⟩⟩
  ·replace c29 := Bool.eq_false_iff.mpr c29
   subst c29
   have H1 : (r03_Mul.j0 k true t556 t557 t560 t563 t564 t567) = some (r1, r2, r3, r4) := by rw [if_neg (show ¬ (false = true) by decide)] at H; exact H
   clear H
   have H := H1
   clear H1
   have H' := Aside0.mk H
   clear H
   go_wp2
   go_meet
   case rel => exact ⟨_, (true), (by first | rfl | (simp; done) | (simp [*]; done)), H', ⟨by first | omega | exact Nat.le_refl _⟩, ⟨by (with_reducible repeat (first | apply rA | apply rN | apply rD)); exact Kd.R_mono (Kd.R_far (p := ⟨gb569, 2, none⟩) (Kd.R_far (p := ⟨gb569, 1, none⟩) (Kd.R_far (p := ⟨gb569, 0, none⟩) (Kd.R_types HO559.out BK569.out (by decide)) (fun _ hk => hk.2) (.bool t563)) (fun _ hk => hk.2) (.slice Ao28 t564.length co28)) (fun _ hk => hk.2) (.int .i64 t567)) (fun _ hk => hk.1.2)⟩, ⟨by (with_reducible repeat (first | apply rA | apply rN | apply rD)); exact Kd.R_mono (Kd.R_far (p := ⟨gb569, 2, none⟩) (Kd.R_far (p := ⟨gb569, 1, none⟩) (Kd.R_far (p := ⟨gb569, 0, none⟩) (Kd.R_types HO566.out BK569.out (by decide)) (fun _ hk => hk.2) (.bool t563)) (fun _ hk => hk.2) (.slice Ao28 t564.length co28)) (fun _ hk => hk.2) (.int .i64 t567)) (fun _ hk => hk.1.2)⟩, ⟨by (with_reducible repeat (first | apply bN | apply bD | apply bA)); refine blk_far ?_ NB553_569.out _; (with_reducible repeat (first | apply bN | apply bD | apply bA)); refine blk_far ?_ NB553_569.out _; (with_reducible repeat (first | apply bN | apply bD | apply bA)); refine blk_far ?_ NB553_569.out _; exact bk_ BK553⟩, ⟨by (with_reducible repeat (first | apply bN | apply bD | apply bA)); refine blk_far ?_ NB554_569.out _; (with_reducible repeat (first | apply bN | apply bD | apply bA)); refine blk_far ?_ NB554_569.out _; (with_reducible repeat (first | apply bN | apply bD | apply bA)); refine blk_far ?_ NB554_569.out _; exact bk_ BK554⟩, ⟨by (with_reducible repeat (first | apply bN | apply bD | apply bA)); refine blk_far ?_ NB555_569.out _; (with_reducible repeat (first | apply bN | apply bD | apply bA)); refine blk_far ?_ NB555_569.out _; (with_reducible repeat (first | apply bN | apply bD | apply bA)); refine blk_far ?_ NB555_569.out _; exact bk_ BK555⟩, ⟨by (with_reducible repeat (first | apply bN | apply bD | apply bA)); refine blk_far ?_ NB562_569.out _; (with_reducible repeat (first | apply bN | apply bD | apply bA)); refine blk_far ?_ NB562_569.out _; (with_reducible repeat (first | apply bN | apply bD | apply bA)); refine blk_far ?_ NB562_569.out _; exact bk_ BK562⟩, ⟨by (with_reducible repeat (first | apply bN | apply bD | apply bA)); refine blk_put (cs := #[.bool t563, .slice Ao28 t564.length co28, .int .i64 0]) ?_ 2 _ rfl; (with_reducible repeat (first | apply bN | apply bD | apply bA)); refine blk_put (cs := #[.bool t563, .slice none 0 0, .int .i64 0]) ?_ 1 _ rfl; (with_reducible repeat (first | apply bN | apply bD | apply bA)); refine blk_put (cs := #[.bool false, .slice none 0 0, .int .i64 0]) ?_ 0 _ rfl; exact bk_ BK569⟩, ⟨bl_ HB⟩⟩
 case rest =>
  clear HC5
  try clear c1
  try clear c2
  try clear p2
  try clear c3
  try clear c5
  try clear c9
  try clear c10
  try clear c14
  try clear c15
  try clear c16
  try clear c19
  try clear c23
  try clear c24
  try clear c25
  try clear c26
  try clear c29
  try clear hcz11_0
  try clear hcz11_1
  try clear hcz11_2
  try clear hcz17_0
  try clear hcz17_1
  try clear hcz17_2
  try clear hcz20_0
  try clear hcz20_1
  try clear hcz20_2
  try clear hcz27_0
  try clear hcz27_1
  try clear hcz27_2
  try clear hfz11_0
  try clear hfz11_1
  try clear hfz11_2
  try clear hfz17_0
  try clear hfz17_1
  try clear hfz17_2
  try clear hfz20_0
  try clear hfz20_1
  try clear hfz20_2
  try clear hfz27_0
  try clear hfz27_1
  try clear hfz27_2
  obtain ⟨kq, x25_4, rfl, HA, HJ4, HO_563001, HO_570001, BK553, BK554, BK555, BK562, BK569, HB⟩ := hcut
  cases kq with
  | zero => exact absurd HA.out (by simp [r03_Mul.j0])
  | succ kj4 =>
   have H := HA.out
   clear HA
   simp only [r03_Mul.j0] at H
   by_cases c30 : x25_4 = true
   ·subst c30
    have H1 : (some (false, ([] : List Int), 0, 2)) = some (r1, r2, r3, r4) := by rw [if_pos rfl] at H; exact H
    clear H
    have H := H1
    clear H1
    simp only [Option.some.injEq, Prod.mk.injEq] at H
    obtain ⟨rfl, rfl, rfl, rfl⟩ := H
    have hnb31 := NB555_553.out
    have hnc31 := NB553_555.out
    have hnb32 := NB555_554.out
    have hnc32 := NB554_555.out
    have hnb33 := NB555_562.out
    have hnc33 := NB562_555.out
    have hnb34 := NB555_569.out
    have hnc34 := NB569_555.out
    have hcz35_0 : wc.cell? ⟨gb555, 0, none⟩ = some (.bool false) := (blk_cell BK555.out 0).trans rfl
    have hcz35_1 : wc.cell? ⟨gb555, 1, none⟩ = some (.slice none 0 0) := (blk_cell BK555.out 1).trans rfl
    have hcz35_2 : wc.cell? ⟨gb555, 2, none⟩ = some (.int .i64 0) := (blk_cell BK555.out 2).trans rfl
    have hfz35_0 := blk_frozen BK555.out 0
    have hfz35_1 := blk_frozen BK555.out 1
    have hfz35_2 := blk_frozen BK555.out 2
    go_wp2
    refine bodyPost_ret (results_ct rfl _ _ gb555 43 #[.bool false, .slice none 0 0, .int .i64 0] (0, 0) _ rfl (by (with_reducible repeat (first | apply bN | apply bD | apply bA)); refine blk_put (cs := #[.bool false, .slice none 0 0, .int .i64 0]) ?_ 2 _ rfl; (with_reducible repeat (first | apply bN | apply bD | apply bA)); refine blk_put (cs := #[.bool false, .slice none 0 0, .int .i64 0]) ?_ 1 _ rfl; (with_reducible repeat (first | apply bN | apply bD | apply bA)); refine blk_put (cs := #[.bool false, .slice none 0 0, .int .i64 0]) ?_ 0 _ rfl; exact bk_ BK555) Try.underlying43 rfl (by kernel_rfl)) rfl ?_
    exact ⟨_, by first | rfl | (simp [errW_none, errW_some] <;> rfl) | (simp [*, errW_none, errW_some] <;> rfl), by first | exact Kd.R_nil _ _ _ _ _ | exact Kd.N_nil _ _ _ _ _ | exact Kd.V_nil _ _ _ _ _ | exact Kd.Q_nil _ _ _ _ _ | exact Kd.S_nil _ _ _ _ _, bl_ HB⟩
   ·replace c30 := Bool.eq_false_iff.mpr c30
    subst c30
    have H1 : ((r02_Times.f kj4 t557 t564).bind fun t570 => ((r03_told.f kj4 (t556 != t563) t570 (wrap64 (t560 + t567))).bind fun bt573 => (some (bt573.1, bt573.2.1, bt573.2.2.1, bt573.2.2.2)))) = some (r1, r2, r3, r4) := by rw [if_neg (show ¬ (false = true) by decide)] at H; exact H
    clear H
    have H := H1
    clear H1
    obtain ⟨t570, A36, H⟩ := ob_ H
    try dsimp only at H
    obtain ⟨⟨t573, t574, t577, t578⟩, A37, H⟩ := ob_ H
    try dsimp only at H
    simp only [Option.some.injEq, Prod.mk.injEq] at H
    obtain ⟨rfl, rfl, rfl, rfl⟩ := H
    try go_wp2
    have n0_ := Aside0.mk (Kd.R_drew HO_563001.out)
    have n1_ := Aside0.mk (Kd.R_drew HO_570001.out)
    have n2_ := Aside0.mk (blk_drew BK553.out)
    have n3_ := Aside0.mk (blk_drew BK554.out)
    have n4_ := Aside0.mk (blk_drew BK555.out)
    have n5_ := Aside0.mk (blk_drew BK562.out)
    have n6_ := Aside0.mk (blk_drew BK569.out)
    have n7_ := Aside0.mk (below_drew1 HB.out)
    clear HO_563001
    clear HO_570001
    clear BK553
    clear BK554
    clear BK555
    clear BK562
    clear BK569
    clear HB
    have HO_563001 := n0_
    have HO_570001 := n1_
    have BK553 := n2_
    have BK554 := n3_
    have BK555 := n4_
    have BK562 := n5_
    have BK569 := n6_
    have HB := n7_
    clear n0_ n1_ n2_ n3_ n4_ n5_ n6_ n7_
    refine start_ (n := 20) (S := fun w' => w'.cell? ⟨gb562, 0, none⟩ = some (.bool t556) ∧ w'.cell? ⟨gb562, 1, none⟩ = some (.slice Ao18 t557.length co18) ∧ w'.cell? ⟨gb562, 2, none⟩ = some (.int .i64 t560) ∧ w'.cell? ⟨gb569, 0, none⟩ = some (.bool t563) ∧ w'.cell? ⟨gb569, 1, none⟩ = some (.slice Ao28 t564.length co28) ∧ w'.cell? ⟨gb569, 2, none⟩ = some (.int .i64 t567)) (ds := []) #[false, false, false, false, false, false, false, false, false, false, false, false, false, false, false, false, false, false, false, false] (by kernel_rfl) rfl rfl ⟨(blk_cell BK562.out 0).trans rfl, (blk_cell BK562.out 1).trans rfl, (blk_cell BK562.out 2).trans rfl, (blk_cell BK569.out 0).trans rfl, (blk_cell BK569.out 1).trans rfl, (blk_cell BK569.out 2).trans rfl⟩ (fun hHeld => ?_); refine with_tabW r03_Mul.tab5 r03_Mul.bits5 (fun HT_ HW_ => ?_)
    generalize wc.drew = w38 at HO_563001 HO_570001 BK553 BK554 BK555 BK562 BK569 HB hHeld ⊢
    refine pure_ (i := 0) (N := some 27) (v := ?_) (a' := ?_) #[true, false, false, false, false, false, false, false, false, false, false, false, false, false, false, false, false, false, false, false] rfl rfl (any_of HT_.out (by kernel_rfl)) (fun _ _ _ h => h) (Or.inl ⟨by rfl, ?_⟩) ?_ ?_
    rotate_left
    ·intro w'
     go_simp
     with_reducible rfl
    rotate_left
    ·simp only [Act.put, List.setIfInBounds_toArray, List.set_cons_zero, List.set_cons_succ, i64_w, i32_w]
     rfl
    refine pure_ (i := 2) (N := some 29) (v := ?_) (a' := ?_) #[true, false, true, false, false, false, false, false, false, false, false, false, false, false, false, false, false, false, false, false] rfl rfl (any_of HT_.out (by kernel_rfl)) (fun _ _ _ h => h) (Or.inl ⟨by rfl, ?_⟩) ?_ ?_
    rotate_left
    ·intro w'
     go_simp
     with_reducible rfl
    rotate_left
    ·simp only [Act.put, List.setIfInBounds_toArray, List.set_cons_zero, List.set_cons_succ, i64_w, i32_w]
     rfl
    refine pure_ (i := 5) (N := some 32) (v := ?_) (a' := ?_) #[true, false, true, false, false, true, false, false, false, false, false, false, false, false, false, false, false, false, false, false] rfl rfl (any_of HT_.out (by kernel_rfl)) (fun _ _ _ h => h) (Or.inl ⟨by rfl, ?_⟩) ?_ ?_
    rotate_left
    ·intro w'
     go_simp
     with_reducible rfl
    rotate_left
    ·simp only [Act.put, List.setIfInBounds_toArray, List.set_cons_zero, List.set_cons_succ, i64_w, i32_w]
     rfl
    refine pure_ (i := 7) (N := some 34) (v := ?_) (a' := ?_) #[true, false, true, false, false, true, false, true, false, false, false, false, false, false, false, false, false, false, false, false] rfl rfl (any_of HT_.out (by kernel_rfl)) (fun _ _ _ h => h) (Or.inl ⟨by rfl, ?_⟩) ?_ ?_
    rotate_left
    ·intro w'
     go_simp
     with_reducible rfl
    rotate_left
    ·simp only [Act.put, List.setIfInBounds_toArray, List.set_cons_zero, List.set_cons_succ, i64_w, i32_w]
     rfl
    refine pure_ (i := 10) (N := some 37) (v := ?_) (a' := ?_) #[true, false, true, false, false, true, false, true, false, false, true, false, false, false, false, false, false, false, false, false] rfl rfl (any_of HT_.out (by kernel_rfl)) (fun _ _ _ h => h) (Or.inl ⟨by rfl, ?_⟩) ?_ ?_
    rotate_left
    ·intro w'
     go_simp
     with_reducible rfl
    rotate_left
    ·simp only [Act.put, List.setIfInBounds_toArray, List.set_cons_zero, List.set_cons_succ, i64_w, i32_w]
     rfl
    refine pure_ (i := 12) (N := some 39) (v := ?_) (a' := ?_) #[true, false, true, false, false, true, false, true, false, false, true, false, true, false, false, false, false, false, false, false] rfl rfl (any_of HT_.out (by kernel_rfl)) (fun _ _ _ h => h) (Or.inl ⟨by rfl, ?_⟩) ?_ ?_
    rotate_left
    ·intro w'
     go_simp
     with_reducible rfl
    rotate_left
    ·simp only [Act.put, List.setIfInBounds_toArray, List.set_cons_zero, List.set_cons_succ, i64_w, i32_w]
     rfl
    refine take_ (i := 1) (N := some 28) (v := ?_) (a' := ?_) #[true, true, true, false, false, true, false, true, false, false, true, false, true, false, false, false, false, false, false, false] rfl rfl (take_ofW HT_.out HW_.out (by kernel_rfl)) (fun _ _ _ h => h) (Or.inl ⟨by rfl, ?_⟩) hHeld ?_ ?_
    rotate_left
    ·rintro w' ⟨s0, s1, s2, s3, s4, s5⟩
     go_simp
     with_reducible rfl
    rotate_left
    ·simp only [Act.put, List.setIfInBounds_toArray, List.set_cons_zero, List.set_cons_succ, i64_w, i32_w]
     rfl
    refine take_ (i := 3) (N := some 30) (v := ?_) (a' := ?_) #[true, true, true, true, false, true, false, true, false, false, true, false, true, false, false, false, false, false, false, false] rfl rfl (take_ofW HT_.out HW_.out (by kernel_rfl)) (fun _ _ _ h => h) (Or.inl ⟨by rfl, ?_⟩) hHeld ?_ ?_
    rotate_left
    ·rintro w' ⟨s0, s1, s2, s3, s4, s5⟩
     go_simp
     with_reducible rfl
    rotate_left
    ·simp only [Act.put, List.setIfInBounds_toArray, List.set_cons_zero, List.set_cons_succ, i64_w, i32_w]
     rfl
    refine pure_ (i := 4) (N := some 31) (v := ?_) (a' := ?_) #[true, true, true, true, true, true, false, true, false, false, true, false, true, false, false, false, false, false, false, false] rfl rfl (any_of HT_.out (by kernel_rfl)) (fun _ _ _ h => h) (Or.inl ⟨by rfl, ?_⟩) ?_ ?_
    rotate_left
    ·intro w'
     go_simp
     with_reducible rfl
    rotate_left
    ·simp only [Act.put, List.setIfInBounds_toArray, List.set_cons_zero, List.set_cons_succ, i64_w, i32_w]
     rfl
    refine take_ (i := 6) (N := some 33) (v := ?_) (a' := ?_) #[true, true, true, true, true, true, true, true, false, false, true, false, true, false, false, false, false, false, false, false] rfl rfl (take_ofW HT_.out HW_.out (by kernel_rfl)) (fun _ _ _ h => h) (Or.inl ⟨by rfl, ?_⟩) hHeld ?_ ?_
    rotate_left
    ·rintro w' ⟨s0, s1, s2, s3, s4, s5⟩
     go_simp
     with_reducible rfl
    rotate_left
    ·simp only [Act.put, List.setIfInBounds_toArray, List.set_cons_zero, List.set_cons_succ, i64_w, i32_w]
     rfl
    refine take_ (i := 8) (N := some 35) (v := ?_) (a' := ?_) #[true, true, true, true, true, true, true, true, true, false, true, false, true, false, false, false, false, false, false, false] rfl rfl (take_ofW HT_.out HW_.out (by kernel_rfl)) (fun _ _ _ h => h) (Or.inl ⟨by rfl, ?_⟩) hHeld ?_ ?_
    rotate_left
    ·rintro w' ⟨s0, s1, s2, s3, s4, s5⟩
     go_simp
     with_reducible rfl
    rotate_left
    ·simp only [Act.put, List.setIfInBounds_toArray, List.set_cons_zero, List.set_cons_succ, i64_w, i32_w]
     rfl
    refine take_ (i := 11) (N := some 38) (v := ?_) (a' := ?_) #[true, true, true, true, true, true, true, true, true, false, true, true, true, false, false, false, false, false, false, false] rfl rfl (take_ofW HT_.out HW_.out (by kernel_rfl)) (fun _ _ _ h => h) (Or.inl ⟨by rfl, ?_⟩) hHeld ?_ ?_
    rotate_left
    ·rintro w' ⟨s0, s1, s2, s3, s4, s5⟩
     go_simp
     with_reducible rfl
    rotate_left
    ·simp only [Act.put, List.setIfInBounds_toArray, List.set_cons_zero, List.set_cons_succ, i64_w, i32_w]
     rfl
    refine take_ (i := 13) (N := some 40) (v := ?_) (a' := ?_) #[true, true, true, true, true, true, true, true, true, false, true, true, true, true, false, false, false, false, false, false] rfl rfl (take_ofW HT_.out HW_.out (by kernel_rfl)) (fun _ _ _ h => h) (Or.inl ⟨by rfl, ?_⟩) hHeld ?_ ?_
    rotate_left
    ·rintro w' ⟨s0, s1, s2, s3, s4, s5⟩
     go_simp
     with_reducible rfl
    rotate_left
    ·simp only [Act.put, List.setIfInBounds_toArray, List.set_cons_zero, List.set_cons_succ, i64_w, i32_w]
     rfl
    refine pure_ (i := 14) (N := some 41) (v := ?_) (a' := ?_) #[true, true, true, true, true, true, true, true, true, false, true, true, true, true, true, false, false, false, false, false] rfl rfl (any_of HT_.out (by kernel_rfl)) (fun _ _ _ h => h) (Or.inl ⟨by rfl, ?_⟩) ?_ ?_
    rotate_left
    ·intro w'
     go_simp
     with_reducible rfl
    rotate_left
    ·simp only [Act.put, List.setIfInBounds_toArray, List.set_cons_zero, List.set_cons_succ, i64_w, i32_w]
     rfl
    refine one_ (i := 9) (N := some 36) #[true, true, true, true, true, true, true, true, true, true, true, true, true, true, true, false, false, false, false, false] rfl rfl (one_of HT_.out (by kernel_rfl)) (by decide) (fun K hK => ?_)
    refine goes_ Try.func63 (by kernel_rfl) rfl #[.slice Ao18 t557.length co18, .slice Ao28 t564.length co28] (by rfl) rfl rfl (by (try simp only [List.map_toArray, List.map_cons, List.map_nil]); first | done | rfl | (simp only [List.length_drop, List.length_take]; rfl)) ?_
    with_reducible refine (r02_Times.calls kj4 _ _ t557 _ _ t564 t570 _ ?side1 ?side2 ?side3 ?side4 A36.out).mono ?_
    (case side1 => repeat (first | exact (Kd.R_reads' HO_563001.out).2.2 | (with_reducible first | apply cA | apply cN | apply cD)))
    (case side2 => exact (Kd.R_reads' HO_563001.out).2.1)
    (case side3 => repeat (first | exact (Kd.R_reads' HO_570001.out).2.2 | (with_reducible first | apply cA | apply cN | apply cD)))
    (case side4 => exact (Kd.R_reads' HO_570001.out).2.1)
    rintro e w39 ⟨v571, rfl, ho0, hb⟩
    refine ⟨_, rfl, ?_⟩
    have n0_ := Aside0.mk (Kd.R_elder' (rr_ HO_563001) (Kd.R_base ho0) hb)
    have n1_ := Aside0.mk (Kd.R_elder' (rr_ HO_570001) (Kd.R_base ho0) hb)
    have n2_ := Aside0.mk (Kd.R_lower (Kd.R_new' (Kd.R_new' ho0 (Kd.R_lt (rr_ HO_563001))) (Kd.R_lt (rr_ HO_570001))) (below_size (bl_ HB)))
    have n3_ := kb_ BK553 hb
    have n4_ := kb_ BK554 hb
    have n5_ := kb_ BK555 hb
    have n6_ := kb_ BK562 hb
    have n7_ := kb_ BK569 hb
    have n8_ := bs_ HB hb
    clear HO_563001
    clear HO_570001
    clear BK553
    clear BK554
    clear BK555
    clear BK562
    clear BK569
    clear HB
    have HO_563001 := n0_
    have HO_570001 := n1_
    have HO572 := n2_
    have BK553 := n3_
    have BK554 := n4_
    have BK555 := n5_
    have BK562 := n6_
    have BK569 := n7_
    have HB := n8_
    clear n0_ n1_ n2_ n3_ n4_ n5_ n6_ n7_ n8_
    (try clear hb)
    (try clear hb2)
    (try clear hk)
    (try clear hi)
    (try clear ho0)
    obtain ⟨Ao40, co40, eo40⟩ := Kd.R_slice HO572.out
    (first | subst eo40 | (injection eo40 with f1_ f2_ f3_; have f4_ := f1_.symm; have f5_ := f3_.symm; clear f1_ f2_ f3_; subst f4_; subst f5_))
    refine hK.out _ _ ⟨(blk_cell BK562.out 0).trans rfl, (blk_cell BK562.out 1).trans rfl, (blk_cell BK562.out 2).trans rfl, (blk_cell BK569.out 0).trans rfl, (blk_cell BK569.out 1).trans rfl, (blk_cell BK569.out 2).trans rfl⟩ (fun hHeld => ?_)
    clear hK K
    refine norm_ (a' := ?_) ?_ ?_
    rotate_left
    ·show Act.put _ (some 36) _ = _
     simp only [Act.put, List.setIfInBounds_toArray, List.set_cons_zero, List.set_cons_succ, i64_w, i32_w]
     rfl
    refine one_ (i := 15) (N := some 42) #[true, true, true, true, true, true, true, true, true, true, true, true, true, true, true, true, false, false, false, false] rfl rfl (one_of HT_.out (by kernel_rfl)) (by decide) (fun K hK => ?_)
    refine goes_ Try.func59 (by kernel_rfl) rfl #[.bool (t556 != t563), .slice Ao40 t570.length co40, .int .i64 (wrap64 (t560 + t567))] (by rfl) rfl rfl (by (try simp only [List.map_toArray, List.map_cons, List.map_nil]); first | done | rfl | (simp only [List.length_drop, List.length_take]; rfl)) ?_
    with_reducible refine (r03_told.calls kj4 (t556 != t563) _ _ t570 (wrap64 (t560 + t567)) t573 t574 t577 t578 _ ?side1 ?side2 A37.out).mono ?_
    (case side1 => repeat (first | exact (Kd.R_reads' HO572.out).2.2 | (with_reducible first | apply cA | apply cN | apply cD)))
    (case side2 => exact (Kd.R_reads' HO572.out).2.1)
    rintro e w41 ⟨v575, rfl, ho0, hb⟩
    refine ⟨_, rfl, ?_⟩
    have n0_ := Aside0.mk (Kd.R_elder' (rr_ HO_563001) (Kd.R_base ho0) hb)
    have n1_ := Aside0.mk (Kd.R_elder' (rr_ HO_570001) (Kd.R_base ho0) hb)
    have n2_ := Aside0.mk (Kd.R_elder' (rr_ HO572) (Kd.R_base ho0) hb)
    have n3_ := Aside0.mk (Kd.R_lower (Kd.R_new' (Kd.R_new' (Kd.R_new' ho0 (Kd.R_lt (rr_ HO_563001))) (Kd.R_lt (rr_ HO_570001))) (Kd.R_lt (rr_ HO572))) (below_size (bl_ HB)))
    have n4_ := kb_ BK553 hb
    have n5_ := kb_ BK554 hb
    have n6_ := kb_ BK555 hb
    have n7_ := kb_ BK562 hb
    have n8_ := kb_ BK569 hb
    have n9_ := bs_ HB hb
    clear HO_563001
    clear HO_570001
    clear HO572
    clear BK553
    clear BK554
    clear BK555
    clear BK562
    clear BK569
    clear HB
    have HO_563001 := n0_
    have HO_570001 := n1_
    have HO572 := n2_
    have HO576 := n3_
    have BK553 := n4_
    have BK554 := n5_
    have BK555 := n6_
    have BK562 := n7_
    have BK569 := n8_
    have HB := n9_
    clear n0_ n1_ n2_ n3_ n4_ n5_ n6_ n7_ n8_ n9_
    (try clear hb)
    (try clear hb2)
    (try clear hk)
    (try clear hi)
    (try clear ho0)
    obtain ⟨Ao43, co43, eo43⟩ := Kd.R_slice HO576.out
    (first | subst eo43 | (injection eo43 with f1_ f2_ f3_; have f4_ := f1_.symm; have f5_ := f3_.symm; clear f1_ f2_ f3_; subst f4_; subst f5_))
    refine hK.out _ _ ⟨(blk_cell BK562.out 0).trans rfl, (blk_cell BK562.out 1).trans rfl, (blk_cell BK562.out 2).trans rfl, (blk_cell BK569.out 0).trans rfl, (blk_cell BK569.out 1).trans rfl, (blk_cell BK569.out 2).trans rfl⟩ (fun hHeld => ?_)
    clear hK K
    refine norm_ (a' := ?_) ?_ ?_
    rotate_left
    ·show Act.put _ (some 42) _ = _
     simp only [Act.put, List.setIfInBounds_toArray, List.set_cons_zero, List.set_cons_succ, i64_w, i32_w]
     rfl
    refine pure_ (i := 16) (N := some 43) (v := ?_) (a' := ?_) #[true, true, true, true, true, true, true, true, true, true, true, true, true, true, true, true, true, false, false, false] rfl rfl (any_of HT_.out (by kernel_rfl)) (fun _ _ _ h => h) (Or.inl ⟨by rfl, ?_⟩) ?_ ?_
    rotate_left
    ·intro w'
     go_simp
     with_reducible rfl
    rotate_left
    ·simp only [Act.put, List.setIfInBounds_toArray, List.set_cons_zero, List.set_cons_succ, i64_w, i32_w]
     rfl
    refine pure_ (i := 17) (N := some 44) (v := ?_) (a' := ?_) #[true, true, true, true, true, true, true, true, true, true, true, true, true, true, true, true, true, true, false, false] rfl rfl (any_of HT_.out (by kernel_rfl)) (fun _ _ _ h => h) (Or.inl ⟨by rfl, ?_⟩) ?_ ?_
    rotate_left
    ·intro w'
     go_simp
     with_reducible rfl
    rotate_left
    ·simp only [Act.put, List.setIfInBounds_toArray, List.set_cons_zero, List.set_cons_succ, i64_w, i32_w]
     rfl
    refine one_ (i := 18) (N := none) #[true, true, true, true, true, true, true, true, true, true, true, true, true, true, true, true, true, true, true, false] rfl rfl (one_of HT_.out (by kernel_rfl)) (by decide) (fun K hK => ?_)
    have hs42 : w41.cell? ⟨gb555, 0, none⟩ = some (.bool false) := (blk_cell BK555.out 0).trans rfl
    have hfs42 := blk_frozen BK555.out 0
    have hns42_0 := NB553_555.out
    have hns42_1 := NB554_555.out
    have hns42_3 := NB562_555.out
    have hns42_4 := NB569_555.out
    have hms42_0 := NB555_553.out
    have hms42_1 := NB555_554.out
    have hms42_3 := NB555_562.out
    have hms42_4 := NB555_569.out
    have hs44 : w41.cell? ⟨gb555, 1, none⟩ = some (.slice none 0 0) := (blk_cell BK555.out 1).trans rfl
    have hfs44 := blk_frozen BK555.out 1
    have hns44_0 := NB553_555.out
    have hns44_1 := NB554_555.out
    have hns44_3 := NB562_555.out
    have hns44_4 := NB569_555.out
    have hms44_0 := NB555_553.out
    have hms44_1 := NB555_554.out
    have hms44_3 := NB555_562.out
    have hms44_4 := NB555_569.out
    have hs45 : w41.cell? ⟨gb555, 2, none⟩ = some (.int .i64 0) := (blk_cell BK555.out 2).trans rfl
    have hfs45 := blk_frozen BK555.out 2
    have hns45_0 := NB553_555.out
    have hns45_1 := NB554_555.out
    have hns45_3 := NB562_555.out
    have hns45_4 := NB569_555.out
    have hms45_0 := NB555_553.out
    have hms45_1 := NB555_554.out
    have hms45_3 := NB555_562.out
    have hms45_4 := NB555_569.out
    refine skip_ (w1 := ?_) (by rfl) rfl ?_ ?_
    rotate_left
    ·go_simp
     rfl
    refine hK.out _ _ ⟨((cell_far (p := ⟨gb555, _, none⟩) NB562_555.out _).trans (((cell_far (p := ⟨gb555, _, none⟩) NB562_555.out _).trans (((cell_far (p := ⟨gb555, _, none⟩) NB562_555.out _).trans (hHeld.1)))))), ((cell_far (p := ⟨gb555, _, none⟩) NB562_555.out _).trans (((cell_far (p := ⟨gb555, _, none⟩) NB562_555.out _).trans (((cell_far (p := ⟨gb555, _, none⟩) NB562_555.out _).trans (hHeld.2.1)))))), ((cell_far (p := ⟨gb555, _, none⟩) NB562_555.out _).trans (((cell_far (p := ⟨gb555, _, none⟩) NB562_555.out _).trans (((cell_far (p := ⟨gb555, _, none⟩) NB562_555.out _).trans (hHeld.2.2.1)))))), ((cell_far (p := ⟨gb555, _, none⟩) NB569_555.out _).trans (((cell_far (p := ⟨gb555, _, none⟩) NB569_555.out _).trans (((cell_far (p := ⟨gb555, _, none⟩) NB569_555.out _).trans (hHeld.2.2.2.1)))))), ((cell_far (p := ⟨gb555, _, none⟩) NB569_555.out _).trans (((cell_far (p := ⟨gb555, _, none⟩) NB569_555.out _).trans (((cell_far (p := ⟨gb555, _, none⟩) NB569_555.out _).trans (hHeld.2.2.2.2.1)))))), ((cell_far (p := ⟨gb555, _, none⟩) NB569_555.out _).trans (((cell_far (p := ⟨gb555, _, none⟩) NB569_555.out _).trans (((cell_far (p := ⟨gb555, _, none⟩) NB569_555.out _).trans (hHeld.2.2.2.2.2))))))⟩ (fun hHeld => ?_)
    clear hK K
    refine pure_ (i := 19) (N := some 5) (v := ?_) (a' := ?_) #[true, true, true, true, true, true, true, true, true, true, true, true, true, true, true, true, true, true, true, true] rfl rfl (any_of HT_.out (by kernel_rfl)) (fun _ _ _ h => h) (Or.inl ⟨by rfl, ?_⟩) ?_ ?_
    rotate_left
    ·intro w'
     go_simp
     with_reducible rfl
    rotate_left
    ·simp only [Act.put, List.setIfInBounds_toArray, List.set_cons_zero, List.set_cons_succ, i64_w, i32_w]
     rfl
    refine done_ (done_of HT_.out (by kernel_rfl)) ?_
    try go_wp2
    refine bodyPost_ret (results_ct rfl _ _ gb555 43 #[.bool t573, .slice Ao43 t574.length co43, .int .i64 t577] (0, 0) _ rfl (by (with_reducible repeat (first | apply bN | apply bD | apply bA)); refine blk_put (cs := #[.bool t573, .slice Ao43 t574.length co43, .int .i64 0]) ?_ 2 _ rfl; (with_reducible repeat (first | apply bN | apply bD | apply bA)); refine blk_put (cs := #[.bool t573, .slice none 0 0, .int .i64 0]) ?_ 1 _ rfl; (with_reducible repeat (first | apply bN | apply bD | apply bA)); refine blk_put (cs := #[.bool false, .slice none 0 0, .int .i64 0]) ?_ 0 _ rfl; exact bk_ BK555) Try.underlying43 rfl (by kernel_rfl)) rfl ?_
    exact ⟨_, by first | rfl | (simp [errW_none, errW_some] <;> rfl) | (simp [*, errW_none, errW_some] <;> rfl), by (with_reducible repeat (first | apply rA | apply rN | apply rD)); exact Kd.R_mono (Kd.R_far (p := ⟨gb555, 2, none⟩) (Kd.R_far (p := ⟨gb555, 1, none⟩) (Kd.R_far (p := ⟨gb555, 0, none⟩) (Kd.R_types HO576.out BK555.out (by decide)) (fun _ hk => hk.2) (.bool t573)) (fun _ hk => hk.2) (.slice Ao43 t574.length co43)) (fun _ hk => hk.2) (.int .i64 t577)) (fun _ hk => trivial), bl_ HB⟩

end Go.Proofs.Ytdemanikmaafeaa.Pr
-- written by this session's own program (wip/fprint.py), which widens the kit's print by floats
namespace Go.Proofs.Ytdemanikmaafeaa.Pr
open Go.RowKit Go.Proofs.YtdemanikmaafeaaW.PrintWords Go.Proofs.YtdemanikmaafeaaW.PrintLast Go.Proofs.YtdemanikmaafeaaW.PrintMore
attribute [local go_sem] max2_int min2_int max_two min_two max_three min_three max_four min_four   -- for this text's walks alone
set_option linter.unusedVariables false
set_option linter.unusedSimpArgs false

/-! ### r05_IsNought: function 56 -/
def r05_IsNought.f (a0 : Nat) : Option (Bool) := some ((Go.bits .andNot .u64 (a0 : Int) 9223372036854775808) == 0)
set_option maxHeartbeats 3000000 in
set_option maxRecDepth 100000 in
theorem r05_IsNought.calls (a0 : Nat) (r : Bool) (w : World) (h : r05_IsNought.f a0 = some r) :
  Calls Try.prog 56 #[.float .f64 a0] w fun e w' => e = .returned (.bool r) ∧ Drawn0 w w' := by
 have H : (some ((Go.bits .andNot .u64 (a0 : Int) 9223372036854775808) == 0)) = some r := h
 clear h
 obtain rfl := Option.some.inj H
 go_enter Try.func56, Try.ntmps56
 go_wp2
 go_ret
 exact ⟨by first | rfl | (simp; done) | (simp [*]; done), by repeat (first | exact Drawn0.refl _ | apply Drawn0.step)⟩

end Go.Proofs.Ytdemanikmaafeaa.Pr
-- written by this session's own program (wip/fprint.py), which widens the kit's print by floats
namespace Go.Proofs.Ytdemanikmaafeaa.Pr
open Go.RowKit Go.Proofs.YtdemanikmaafeaaW.PrintWords Go.Proofs.YtdemanikmaafeaaW.PrintLast Go.Proofs.YtdemanikmaafeaaW.PrintMore
attribute [local go_sem] max2_int min2_int max_two min_two max_three min_three max_four min_four   -- for this text's walks alone
set_option linter.unusedVariables false
set_option linter.unusedSimpArgs false

/-! ### r05_Times: function 46 -/
mutual
def r05_Times.j0 : Nat → Nat → Nat → Bool → Bool → Bool → Bool → Bool → Bool → Option (Nat)
 | 0, _, _, _, _, _, _, _, _ => none
 | k + 1, x0, x1, x5, x8, x9, x10, x11, x37 => if x37 = true then ((r05_Odd.f).bind fun t587 => (some t587)) else (if x8 = true then (r05_Times.j1 k x0 x1 x5 x10 x11 true) else (r05_Times.j1 k x0 x1 x5 x10 x11 x9))
def r05_Times.j1 : Nat → Nat → Nat → Bool → Bool → Bool → Bool → Option (Nat)
 | 0, _, _, _, _, _, _ => none
 | k + 1, x0, x1, x5, x10, x11, x55 => if x55 = true then ((r05_signed.f 9218868437227405312 x5).bind fun t588 => (some t588)) else (if x10 = true then ((r05_signed.f 0 x5).bind fun t589 => (some t589)) else (if x11 = true then ((r05_signed.f 0 x5).bind fun t590 => (some t590)) else ((r03_Of.f k x0).bind fun bt591 => ((r03_Of.f k x1).bind fun bt598 => ((r03_Mul.f k bt591.1 bt591.2.1 bt591.2.2.1 bt598.1 bt598.2.1 bt598.2.2.1).bind fun bt605 => ((r03_Round.f k bt605.1 bt605.2.1 bt605.2.2.1 0).bind fun bt612 => (some bt612.1)))))))
end
def r05_Times.f (k : Nat) (a0 : Nat) (a1 : Nat) : Option (Nat) := (r05_Neg.f a0).bind fun t579 => ((r05_Neg.f a1).bind fun t580 => ((r05_IsOdd.f a0).bind fun t581 => ((r05_IsOdd.f a1).bind fun t582 => ((r05_IsEndless.f a0).bind fun t583 => ((r05_IsEndless.f a1).bind fun t584 => ((r05_IsNought.f a0).bind fun t585 => ((r05_IsNought.f a1).bind fun t586 => (if t581 = true then (r05_Times.j0 k a0 a1 (t579 != t580) t583 t584 t585 t586 true) else (if t582 = true then (r05_Times.j0 k a0 a1 (t579 != t580) t583 t584 t585 t586 true) else (if t583 = true then (if t586 = true then (r05_Times.j0 k a0 a1 (t579 != t580) t583 t584 t585 t586 true) else (if t584 = true then (r05_Times.j0 k a0 a1 (t579 != t580) t583 t584 t585 t586 t585) else (r05_Times.j0 k a0 a1 (t579 != t580) t583 t584 t585 t586 false))) else (if t584 = true then (r05_Times.j0 k a0 a1 (t579 != t580) t583 t584 t585 t586 t585) else (r05_Times.j0 k a0 a1 (t579 != t580) t583 t584 t585 t586 false))))))))))))
theorem r05_Times.mono_l : ∀ k, (∀ y0 y1 y2 y3 y4 y5 y6 y7, LeO (r05_Times.j0 k y0 y1 y2 y3 y4 y5 y6 y7) (r05_Times.j0 (k + 1) y0 y1 y2 y3 y4 y5 y6 y7)) ∧ (∀ y0 y1 y2 y3 y4 y5, LeO (r05_Times.j1 k y0 y1 y2 y3 y4 y5) (r05_Times.j1 (k + 1) y0 y1 y2 y3 y4 y5))
 | 0 => ⟨fun _ _ _ _ _ _ _ _ r h => by simp [r05_Times.j0] at h, fun _ _ _ _ _ _ r h => by simp [r05_Times.j1] at h⟩
 | k + 1 => by
  obtain ⟨ih0, ih1⟩ := r05_Times.mono_l k
  refine ⟨?_, ?_⟩
  ·intro y0 y1 y2 y3 y4 y5 y6 y7
   unfold r05_Times.j0
   repeat' first
   | (with_reducible exact ih0 _ _ _ _ _ _ _ _)
   | (with_reducible exact ih1 _ _ _ _ _ _)
   | (with_reducible exact r03_Mul.mono _ _ _ _ _ _ _)
   | (with_reducible exact r03_Of.mono _ _)
   | (with_reducible exact r03_Round.mono _ _ _ _ _)
   | (with_reducible exact LeO.refl _)
   | (with_reducible exact LeO.none _)
   | (with_reducible refine LeO.ite ?_ ?_)
   | (with_reducible refine LeO.bind ?_ (fun _ => ?_))
   | exact ih0 _ _ _ _ _ _ _ _
   | exact ih1 _ _ _ _ _ _
   | exact r03_Mul.mono _ _ _ _ _ _ _
   | exact r03_Of.mono _ _
   | exact r03_Round.mono _ _ _ _ _
   | exact LeO.none _
   | refine LeO.ite ?_ ?_
   | refine LeO.bind ?_ (fun _ => ?_)
  ·intro y0 y1 y2 y3 y4 y5
   unfold r05_Times.j1
   repeat' first
   | (with_reducible exact ih0 _ _ _ _ _ _ _ _)
   | (with_reducible exact ih1 _ _ _ _ _ _)
   | (with_reducible exact r03_Mul.mono _ _ _ _ _ _ _)
   | (with_reducible exact r03_Of.mono _ _)
   | (with_reducible exact r03_Round.mono _ _ _ _ _)
   | (with_reducible exact LeO.refl _)
   | (with_reducible exact LeO.none _)
   | (with_reducible refine LeO.ite ?_ ?_)
   | (with_reducible refine LeO.bind ?_ (fun _ => ?_))
   | exact ih0 _ _ _ _ _ _ _ _
   | exact ih1 _ _ _ _ _ _
   | exact r03_Mul.mono _ _ _ _ _ _ _
   | exact r03_Of.mono _ _
   | exact r03_Round.mono _ _ _ _ _
   | exact LeO.none _
   | refine LeO.ite ?_ ?_
   | refine LeO.bind ?_ (fun _ => ?_)
theorem r05_Times.mono : ∀ a0 a1 k, LeO (r05_Times.f k a0 a1) (r05_Times.f (k + 1) a0 a1) := by
 intro a0 a1 k
 obtain ⟨ih0, ih1⟩ := r05_Times.mono_l k
 unfold r05_Times.f
 repeat' first
   | (with_reducible exact ih0 _ _ _ _ _ _ _ _)
   | (with_reducible exact ih1 _ _ _ _ _ _)
   | (with_reducible exact r03_Mul.mono _ _ _ _ _ _ _)
   | (with_reducible exact r03_Of.mono _ _)
   | (with_reducible exact r03_Round.mono _ _ _ _ _)
   | (with_reducible exact LeO.refl _)
   | (with_reducible exact LeO.none _)
   | (with_reducible refine LeO.ite ?_ ?_)
   | (with_reducible refine LeO.bind ?_ (fun _ => ?_))
   | exact ih0 _ _ _ _ _ _ _ _
   | exact ih1 _ _ _ _ _ _
   | exact r03_Mul.mono _ _ _ _ _ _ _
   | exact r03_Of.mono _ _
   | exact r03_Round.mono _ _ _ _ _
   | exact LeO.none _
   | refine LeO.ite ?_ ?_
   | refine LeO.bind ?_ (fun _ => ?_)
set_option maxHeartbeats 3000000 in
set_option maxRecDepth 100000 in
theorem r05_Times.calls (k : Nat) (a0 : Nat) (a1 : Nat) (r : Nat) (w : World) (h : r05_Times.f k a0 a1 = some r) :
  Calls Try.prog 46 #[.float .f64 a0, .float .f64 a1] w fun e w' => e = .returned (.float .f64 r) ∧ Below w.heap.size w w' := by
 have hu43 := Try.underlying43
 have HB := Aside0.mk (Below.refl w.heap.size w)
 have H : ((r05_Neg.f a0).bind fun t579 => ((r05_Neg.f a1).bind fun t580 => ((r05_IsOdd.f a0).bind fun t581 => ((r05_IsOdd.f a1).bind fun t582 => ((r05_IsEndless.f a0).bind fun t583 => ((r05_IsEndless.f a1).bind fun t584 => ((r05_IsNought.f a0).bind fun t585 => ((r05_IsNought.f a1).bind fun t586 => (if t581 = true then (r05_Times.j0 k a0 a1 (t579 != t580) t583 t584 t585 t586 true) else (if t582 = true then (r05_Times.j0 k a0 a1 (t579 != t580) t583 t584 t585 t586 true) else (if t583 = true then (if t586 = true then (r05_Times.j0 k a0 a1 (t579 != t580) t583 t584 t585 t586 true) else (if t584 = true then (r05_Times.j0 k a0 a1 (t579 != t580) t583 t584 t585 t586 t585) else (r05_Times.j0 k a0 a1 (t579 != t580) t583 t584 t585 t586 false))) else (if t584 = true then (r05_Times.j0 k a0 a1 (t579 != t580) t583 t584 t585 t586 t585) else (r05_Times.j0 k a0 a1 (t579 != t580) t583 t584 t585 t586 false))))))))))))) = some r := h
 clear h
 obtain ⟨t579, A3, H⟩ := ob_ H
 try dsimp only at H
 obtain ⟨t580, A4, H⟩ := ob_ H
 try dsimp only at H
 obtain ⟨t581, A5, H⟩ := ob_ H
 try dsimp only at H
 obtain ⟨t582, A6, H⟩ := ob_ H
 try dsimp only at H
 obtain ⟨t583, A7, H⟩ := ob_ H
 try dsimp only at H
 obtain ⟨t584, A8, H⟩ := ob_ H
 try dsimp only at H
 obtain ⟨t585, A9, H⟩ := ob_ H
 try dsimp only at H
 obtain ⟨t586, A10, H⟩ := ob_ H
 try dsimp only at H
 have HC11 := Aside0.mk H
 clear H
 go_enter Try.func46, Try.ntmps46
 go_upto_region 8 with (first | ((with_reducible refine gate_callee (f := 68) rfl ?_); refine goesM (some 21) Try.func68 #[.float .f64 a0] ?_; (with_reducible refine (r05_Neg.calls a0 t579 _ A3.out).mono ?_); rintro e w' ⟨rfl, ⟨nd, rfl⟩⟩; refine ⟨_, rfl, ?_⟩) | ((with_reducible refine gate_callee (f := 68) rfl ?_); refine goesM (some 23) Try.func68 #[.float .f64 a1] ?_; (with_reducible refine (r05_Neg.calls a1 t580 _ A4.out).mono ?_); rintro e w' ⟨rfl, ⟨nd, rfl⟩⟩; refine ⟨_, rfl, ?_⟩) | ((with_reducible refine gate_callee (f := 66) rfl ?_); refine goesM (some 26) Try.func66 #[.float .f64 a0] ?_; (with_reducible refine (r05_IsOdd.calls a0 t581 _ A5.out).mono ?_); rintro e w' ⟨rfl, ⟨nd, rfl⟩⟩; refine ⟨_, rfl, ?_⟩) | ((with_reducible refine gate_callee (f := 66) rfl ?_); refine goesM (some 28) Try.func66 #[.float .f64 a1] ?_; (with_reducible refine (r05_IsOdd.calls a1 t582 _ A6.out).mono ?_); rintro e w' ⟨rfl, ⟨nd, rfl⟩⟩; refine ⟨_, rfl, ?_⟩) | ((with_reducible refine gate_callee (f := 67) rfl ?_); refine goesM (some 30) Try.func67 #[.float .f64 a0] ?_; (with_reducible refine (r05_IsEndless.calls a0 t583 _ A7.out).mono ?_); rintro e w' ⟨rfl, ⟨nd, rfl⟩⟩; refine ⟨_, rfl, ?_⟩) | ((with_reducible refine gate_callee (f := 67) rfl ?_); refine goesM (some 32) Try.func67 #[.float .f64 a1] ?_; (with_reducible refine (r05_IsEndless.calls a1 t584 _ A8.out).mono ?_); rintro e w' ⟨rfl, ⟨nd, rfl⟩⟩; refine ⟨_, rfl, ?_⟩) | ((with_reducible refine gate_callee (f := 56) rfl ?_); refine goesM (some 34) Try.func56 #[.float .f64 a0] ?_; (with_reducible refine (r05_IsNought.calls a0 t585 _ A9.out).mono ?_); rintro e w' ⟨rfl, ⟨nd, rfl⟩⟩; refine ⟨_, rfl, ?_⟩) | ((with_reducible refine gate_callee (f := 56) rfl ?_); refine goesM (some 36) Try.func56 #[.float .f64 a1] ?_; (with_reducible refine (r05_IsNought.calls a1 t586 _ A10.out).mono ?_); rintro e w' ⟨rfl, ⟨nd, rfl⟩⟩; refine ⟨_, rfl, ?_⟩))
 (try simp only [Act.put, List.setIfInBounds_toArray, List.set_cons_zero, List.set_cons_succ])
 go_cut [37] (fun v37 wc => ∃ (kq : Nat) (x37_10 : Bool), v37 = .bool x37_10 ∧ Aside0 (r05_Times.j0 kq a0 a1 (t579 != t580) t583 t584 t585 t586 x37_10 = some r) ∧ Aside0 (kq ≤ k) ∧ Aside0 (Below w.heap.size w wc))
 case first =>
  have H := HC11.out
  clear HC11
  by_cases c12 : t581 = true
  ·subst c12
   have H1 : (r05_Times.j0 k a0 a1 (t579 != t580) t583 t584 t585 t586 true) = some r := by rw [if_pos rfl] at H; exact H
   clear H
   have H := H1
   clear H1
   have H' := Aside0.mk H
   clear H
   go_wp2
   go_meet
   case rel => exact ⟨_, (true), (by first | rfl | (simp; done) | (simp [*]; done)), H', ⟨by first | omega | exact Nat.le_refl _⟩, ⟨bl_ HB⟩⟩
  ·replace c12 := Bool.eq_false_iff.mpr c12
   subst c12
   have H1 : (if t582 = true then (r05_Times.j0 k a0 a1 (t579 != t580) t583 t584 t585 t586 true) else (if t583 = true then (if t586 = true then (r05_Times.j0 k a0 a1 (t579 != t580) t583 t584 t585 t586 true) else (if t584 = true then (r05_Times.j0 k a0 a1 (t579 != t580) t583 t584 t585 t586 t585) else (r05_Times.j0 k a0 a1 (t579 != t580) t583 t584 t585 t586 false))) else (if t584 = true then (r05_Times.j0 k a0 a1 (t579 != t580) t583 t584 t585 t586 t585) else (r05_Times.j0 k a0 a1 (t579 != t580) t583 t584 t585 t586 false)))) = some r := by rw [if_neg (show ¬ (false = true) by decide)] at H; exact H
   clear H
   have H := H1
   clear H1
   by_cases c13 : t582 = true
   ·subst c13
    have H1 : (r05_Times.j0 k a0 a1 (t579 != t580) t583 t584 t585 t586 true) = some r := by rw [if_pos rfl] at H; exact H
    clear H
    have H := H1
    clear H1
    have H' := Aside0.mk H
    clear H
    go_wp2
    go_meet
    case rel => exact ⟨_, (true), (by first | rfl | (simp; done) | (simp [*]; done)), H', ⟨by first | omega | exact Nat.le_refl _⟩, ⟨bl_ HB⟩⟩
   ·replace c13 := Bool.eq_false_iff.mpr c13
    subst c13
    have H1 : (if t583 = true then (if t586 = true then (r05_Times.j0 k a0 a1 (t579 != t580) t583 t584 t585 t586 true) else (if t584 = true then (r05_Times.j0 k a0 a1 (t579 != t580) t583 t584 t585 t586 t585) else (r05_Times.j0 k a0 a1 (t579 != t580) t583 t584 t585 t586 false))) else (if t584 = true then (r05_Times.j0 k a0 a1 (t579 != t580) t583 t584 t585 t586 t585) else (r05_Times.j0 k a0 a1 (t579 != t580) t583 t584 t585 t586 false))) = some r := by rw [if_neg (show ¬ (false = true) by decide)] at H; exact H
    clear H
    have H := H1
    clear H1
    by_cases c14 : t583 = true
    ·subst c14
     have H1 : (if t586 = true then (r05_Times.j0 k a0 a1 (t579 != t580) true t584 t585 t586 true) else (if t584 = true then (r05_Times.j0 k a0 a1 (t579 != t580) true t584 t585 t586 t585) else (r05_Times.j0 k a0 a1 (t579 != t580) true t584 t585 t586 false))) = some r := by rw [if_pos rfl] at H; exact H
     clear H
     have H := H1
     clear H1
     by_cases c15 : t586 = true
     ·subst c15
      have H1 : (r05_Times.j0 k a0 a1 (t579 != t580) true t584 t585 true true) = some r := by rw [if_pos rfl] at H; exact H
      clear H
      have H := H1
      clear H1
      have H' := Aside0.mk H
      clear H
      go_wp2
      go_meet
      case rel => exact ⟨_, (true), (by first | rfl | (simp; done) | (simp [*]; done)), H', ⟨by first | omega | exact Nat.le_refl _⟩, ⟨bl_ HB⟩⟩
     ·replace c15 := Bool.eq_false_iff.mpr c15
      subst c15
      have H1 : (if t584 = true then (r05_Times.j0 k a0 a1 (t579 != t580) true t584 t585 false t585) else (r05_Times.j0 k a0 a1 (t579 != t580) true t584 t585 false false)) = some r := by rw [if_neg (show ¬ (false = true) by decide)] at H; exact H
      clear H
      have H := H1
      clear H1
      by_cases c16 : t584 = true
      ·subst c16
       have H1 : (r05_Times.j0 k a0 a1 (t579 != t580) true true t585 false t585) = some r := by rw [if_pos rfl] at H; exact H
       clear H
       have H := H1
       clear H1
       have H' := Aside0.mk H
       clear H
       go_wp2
       go_meet
       case rel => exact ⟨_, (t585), (by first | rfl | (simp; done) | (simp [*]; done)), H', ⟨by first | omega | exact Nat.le_refl _⟩, ⟨bl_ HB⟩⟩
      ·replace c16 := Bool.eq_false_iff.mpr c16
       subst c16
       have H1 : (r05_Times.j0 k a0 a1 (t579 != t580) true false t585 false false) = some r := by rw [if_neg (show ¬ (false = true) by decide)] at H; exact H
       clear H
       have H := H1
       clear H1
       have H' := Aside0.mk H
       clear H
       go_wp2
       go_meet
       case rel => exact ⟨_, (false), (by first | rfl | (simp; done) | (simp [*]; done)), H', ⟨by first | omega | exact Nat.le_refl _⟩, ⟨bl_ HB⟩⟩
    ·replace c14 := Bool.eq_false_iff.mpr c14
     subst c14
     have H1 : (if t584 = true then (r05_Times.j0 k a0 a1 (t579 != t580) false t584 t585 t586 t585) else (r05_Times.j0 k a0 a1 (t579 != t580) false t584 t585 t586 false)) = some r := by rw [if_neg (show ¬ (false = true) by decide)] at H; exact H
     clear H
     have H := H1
     clear H1
     by_cases c17 : t584 = true
     ·subst c17
      have H1 : (r05_Times.j0 k a0 a1 (t579 != t580) false true t585 t586 t585) = some r := by rw [if_pos rfl] at H; exact H
      clear H
      have H := H1
      clear H1
      have H' := Aside0.mk H
      clear H
      go_wp2
      go_meet
      case rel => exact ⟨_, (t585), (by first | rfl | (simp; done) | (simp [*]; done)), H', ⟨by first | omega | exact Nat.le_refl _⟩, ⟨bl_ HB⟩⟩
     ·replace c17 := Bool.eq_false_iff.mpr c17
      subst c17
      have H1 : (r05_Times.j0 k a0 a1 (t579 != t580) false false t585 t586 false) = some r := by rw [if_neg (show ¬ (false = true) by decide)] at H; exact H
      clear H
      have H := H1
      clear H1
      have H' := Aside0.mk H
      clear H
      go_wp2
      go_meet
      case rel => exact ⟨_, (false), (by first | rfl | (simp; done) | (simp [*]; done)), H', ⟨by first | omega | exact Nat.le_refl _⟩, ⟨bl_ HB⟩⟩
 case rest =>
  clear HC11
  try clear c1
  try clear p2
  try clear c4
  try clear c5
  try clear c6
  try clear c12
  try clear c13
  try clear c14
  try clear c15
  try clear c16
  try clear c17
  obtain ⟨kq, x37_10, rfl, HA, HJ10, HB⟩ := hcut
  cases kq with
  | zero => exact absurd HA.out (by simp [r05_Times.j0])
  | succ kj10 =>
   have H := HA.out
   clear HA
   simp only [r05_Times.j0] at H
   by_cases c18 : x37_10 = true
   ·subst c18
    have H1 : ((r05_Odd.f).bind fun t587 => (some t587)) = some r := by rw [if_pos rfl] at H; exact H
    clear H
    have H := H1
    clear H1
    obtain ⟨t587, A19, H⟩ := ob_ H
    try dsimp only at H
    obtain rfl := Option.some.inj H
    go_wp2_with (first | ((with_reducible refine gate_callee (f := 9) rfl ?_); refine goesM (some 54) Try.func9 #[] ?_; (with_reducible refine (r05_Odd.calls  t587 _ A19.out).mono ?_); rintro e w' ⟨rfl, ⟨nd, rfl⟩⟩; refine ⟨_, rfl, ?_⟩))
    go_ret
    exact ⟨by first | rfl | (simp [errW_none, errW_some] <;> rfl) | (simp [*, errW_none, errW_some] <;> rfl), bl_ HB⟩
   ·replace c18 := Bool.eq_false_iff.mpr c18
    subst c18
    have H1 : (if t583 = true then (r05_Times.j1 kj10 a0 a1 (t579 != t580) t585 t586 true) else (r05_Times.j1 kj10 a0 a1 (t579 != t580) t585 t586 t584)) = some r := by rw [if_neg (show ¬ (false = true) by decide)] at H; exact H
    clear H
    have H := H1
    clear H1
    have HC20 := Aside0.mk H
    clear H
    go_upto_region 10 with (fail)
    go_cut [55] (fun v55 wc => ∃ (kq : Nat) (x55_19 : Bool), v55 = .bool x55_19 ∧ Aside0 (r05_Times.j1 kq a0 a1 (t579 != t580) t585 t586 x55_19 = some r) ∧ Aside0 (kq ≤ kj10) ∧ Aside0 (Below w.heap.size w wc))
    case first =>
     have H := HC20.out
     clear HC20
     by_cases c21 : t583 = true
     ·subst c21
      have H1 : (r05_Times.j1 kj10 a0 a1 (t579 != t580) t585 t586 true) = some r := by rw [if_pos rfl] at H; exact H
      clear H
      have H := H1
      clear H1
      have H' := Aside0.mk H
      clear H
      go_wp2
      go_meet
      case rel => exact ⟨_, (true), (by first | rfl | (simp; done) | (simp [*]; done)), H', ⟨by have := HJ10.out; first | omega | exact Nat.le_refl _⟩, ⟨bl_ HB⟩⟩
     ·replace c21 := Bool.eq_false_iff.mpr c21
      subst c21
      have H1 : (r05_Times.j1 kj10 a0 a1 (t579 != t580) t585 t586 t584) = some r := by rw [if_neg (show ¬ (false = true) by decide)] at H; exact H
      clear H
      have H := H1
      clear H1
      have H' := Aside0.mk H
      clear H
      go_wp2
      go_meet
      case rel => exact ⟨_, (t584), (by first | rfl | (simp; done) | (simp [*]; done)), H', ⟨by have := HJ10.out; first | omega | exact Nat.le_refl _⟩, ⟨bl_ HB⟩⟩
    case rest =>
     clear HC20
     try clear c1
     try clear c2
     try clear p2
     try clear c4
     try clear c5
     try clear c6
     try clear c9
     try clear c12
     try clear c13
     try clear c14
     try clear c15
     try clear c16
     try clear c17
     try clear c18
     try clear c21
     try clear p2
     obtain ⟨kq, x55_19, rfl, HA, HJ19, HB⟩ := hcut
     cases kq with
     | zero => exact absurd HA.out (by simp [r05_Times.j1])
     | succ kj19 =>
      have H := HA.out
      clear HA
      simp only [r05_Times.j1] at H
      by_cases c22 : x55_19 = true
      ·subst c22
       have H1 : ((r05_signed.f 9218868437227405312 (t579 != t580)).bind fun t588 => (some t588)) = some r := by rw [if_pos rfl] at H; exact H
       clear H
       have H := H1
       clear H1
       obtain ⟨t588, A23, H⟩ := ob_ H
       try dsimp only at H
       obtain rfl := Option.some.inj H
       go_wp2_with (first | ((with_reducible refine gate_callee (f := 69) rfl ?_); refine goesM (some 61) Try.func69 #[.int .u64 9218868437227405312, .bool (t579 != t580)] ?_; (with_reducible refine (r05_signed.calls 9218868437227405312 (t579 != t580) t588 _ A23.out).mono ?_); rintro e w' ⟨rfl, ⟨nd, rfl⟩⟩; refine ⟨_, rfl, ?_⟩))
       go_ret
       exact ⟨by first | rfl | (simp [errW_none, errW_some] <;> rfl) | (simp [*, errW_none, errW_some] <;> rfl), bl_ HB⟩
      ·replace c22 := Bool.eq_false_iff.mpr c22
       subst c22
       have H1 : (if t585 = true then ((r05_signed.f 0 (t579 != t580)).bind fun t589 => (some t589)) else (if t586 = true then ((r05_signed.f 0 (t579 != t580)).bind fun t590 => (some t590)) else ((r03_Of.f kj19 a0).bind fun bt591 => ((r03_Of.f kj19 a1).bind fun bt598 => ((r03_Mul.f kj19 bt591.1 bt591.2.1 bt591.2.2.1 bt598.1 bt598.2.1 bt598.2.2.1).bind fun bt605 => ((r03_Round.f kj19 bt605.1 bt605.2.1 bt605.2.2.1 0).bind fun bt612 => (some bt612.1))))))) = some r := by rw [if_neg (show ¬ (false = true) by decide)] at H; exact H
       clear H
       have H := H1
       clear H1
       by_cases c24 : t585 = true
       ·subst c24
        have H1 : ((r05_signed.f 0 (t579 != t580)).bind fun t589 => (some t589)) = some r := by rw [if_pos rfl] at H; exact H
        clear H
        have H := H1
        clear H1
        obtain ⟨t589, A25, H⟩ := ob_ H
        try dsimp only at H
        obtain rfl := Option.some.inj H
        go_wp2_with (first | ((with_reducible refine gate_callee (f := 69) rfl ?_); refine goesM (some 68) Try.func69 #[.int .u64 0, .bool (t579 != t580)] ?_; (with_reducible refine (r05_signed.calls 0 (t579 != t580) t589 _ A25.out).mono ?_); rintro e w' ⟨rfl, ⟨nd, rfl⟩⟩; refine ⟨_, rfl, ?_⟩))
        go_ret
        exact ⟨by first | rfl | (simp [errW_none, errW_some] <;> rfl) | (simp [*, errW_none, errW_some] <;> rfl), bl_ HB⟩
       ·replace c24 := Bool.eq_false_iff.mpr c24
        subst c24
        have H1 : (if t586 = true then ((r05_signed.f 0 (t579 != t580)).bind fun t590 => (some t590)) else ((r03_Of.f kj19 a0).bind fun bt591 => ((r03_Of.f kj19 a1).bind fun bt598 => ((r03_Mul.f kj19 bt591.1 bt591.2.1 bt591.2.2.1 bt598.1 bt598.2.1 bt598.2.2.1).bind fun bt605 => ((r03_Round.f kj19 bt605.1 bt605.2.1 bt605.2.2.1 0).bind fun bt612 => (some bt612.1)))))) = some r := by rw [if_neg (show ¬ (false = true) by decide)] at H; exact H
        clear H
        have H := H1
        clear H1
        by_cases c26 : t586 = true
        ·subst c26
         have H1 : ((r05_signed.f 0 (t579 != t580)).bind fun t590 => (some t590)) = some r := by rw [if_pos rfl] at H; exact H
         clear H
         have H := H1
         clear H1
         obtain ⟨t590, A27, H⟩ := ob_ H
         try dsimp only at H
         obtain rfl := Option.some.inj H
         go_wp2_with (first | ((with_reducible refine gate_callee (f := 69) rfl ?_); refine goesM (some 68) Try.func69 #[.int .u64 0, .bool (t579 != t580)] ?_; (with_reducible refine (r05_signed.calls 0 (t579 != t580) t590 _ A27.out).mono ?_); rintro e w' ⟨rfl, ⟨nd, rfl⟩⟩; refine ⟨_, rfl, ?_⟩))
         go_ret
         exact ⟨by first | rfl | (simp [errW_none, errW_some] <;> rfl) | (simp [*, errW_none, errW_some] <;> rfl), bl_ HB⟩
        ·replace c26 := Bool.eq_false_iff.mpr c26
         subst c26
         have H1 : ((r03_Of.f kj19 a0).bind fun bt591 => ((r03_Of.f kj19 a1).bind fun bt598 => ((r03_Mul.f kj19 bt591.1 bt591.2.1 bt591.2.2.1 bt598.1 bt598.2.1 bt598.2.2.1).bind fun bt605 => ((r03_Round.f kj19 bt605.1 bt605.2.1 bt605.2.2.1 0).bind fun bt612 => (some bt612.1))))) = some r := by rw [if_neg (show ¬ (false = true) by decide)] at H; exact H
         clear H
         have H := H1
         clear H1
         obtain ⟨⟨t591, t592, t595, t596⟩, A28, H⟩ := ob_ H
         try dsimp only at H
         obtain ⟨⟨t598, t599, t602, t603⟩, A29, H⟩ := ob_ H
         try dsimp only at H
         obtain ⟨⟨t605, t606, t609, t610⟩, A30, H⟩ := ob_ H
         try dsimp only at H
         obtain ⟨⟨t612, t613⟩, A31, H⟩ := ob_ H
         try dsimp only at H
         obtain rfl := Option.some.inj H
         go_wp2_with (first | ((with_reducible refine gate_callee (f := 50) rfl ?_); refine goesM (some 71) Try.func50 #[.float .f64 a0] ?_; (with_reducible refine (r03_Of.calls kj19 a0 t591 t592 t595 t596 _ A28.out).mono ?_); rintro e w32 ⟨v593, rfl, ho0, hb⟩; refine ⟨_, rfl, ?_⟩; have n0_ := Aside0.mk (Kd.R_lower ho0 (below_size (bl_ HB))); have n1_ := bs_ HB hb; clear HB; have HO594 := n0_; have HB := n1_; clear n0_ n1_; (try clear hb); (try clear hb2); (try clear hk); (try clear hi); (try clear ho0)) | ((with_reducible refine gate_dst (N := 12) rfl ?_); refine box_event ?hg (N := 12) ?hd (cs := #[.bool false, .slice none 0 0, .int .i64 0]) (t := 43) ?hr ?_; (case hd => rfl); (case hg => rfl); (case hr => first | (go_simp; done) | (go_simp; rfl)); intro gb597 hg w33 hbox hb; have n0_ := Aside0.mk (Kd.R_below (rr_ HO594) hb); have n1_ := bs_ HB hb; have n2_ := Aside0.mk (hbox); have n3_ := ge_ HB hg; have n4_ := ge_ HB hg; clear HO594; clear HB; have HO594 := n0_; have HB := n1_; have BK597 := n2_; have GW597 := n3_; have GE597 := n4_; clear n0_ n1_ n2_ n3_ n4_; clear hb hbox hg; have hcz34_0 : w33.cell? ⟨gb597, 0, none⟩ = some (.bool false) := (blk_cell BK597.out 0).trans rfl; have hcz34_1 : w33.cell? ⟨gb597, 1, none⟩ = some (.slice none 0 0) := (blk_cell BK597.out 1).trans rfl; have hcz34_2 : w33.cell? ⟨gb597, 2, none⟩ = some (.int .i64 0) := (blk_cell BK597.out 2).trans rfl; have hfz34_0 := blk_frozen BK597.out 0; have hfz34_1 := blk_frozen BK597.out 1; have hfz34_2 := blk_frozen BK597.out 2; obtain ⟨Ao35, co35, eo35⟩ := Kd.R_slice HO594.out; subst eo35) | ((with_reducible refine gate_callee (f := 50) rfl ?_); refine goesM (some 76) Try.func50 #[.float .f64 a1] ?_; (with_reducible refine (r03_Of.calls kj19 a1 t598 t599 t602 t603 _ A29.out).mono ?_); rintro e w36 ⟨v600, rfl, ho0, hb⟩; refine ⟨_, rfl, ?_⟩; have n0_ := Aside0.mk (Kd.R_elder' (by (with_reducible repeat (first | apply rA | apply rN | apply rD)); exact (Kd.R_mono (Kd.R_far (p := ⟨gb597, 2, none⟩) (Kd.R_far (p := ⟨gb597, 1, none⟩) (Kd.R_far (p := ⟨gb597, 0, none⟩) (Kd.R_types HO594.out BK597.out (by decide)) (fun _ hk => hk.2) (.bool t591)) (fun _ hk => hk.2) (.slice Ao35 t592.length co35)) (fun _ hk => hk.2) (.int .i64 t595)) (fun _ h_ => h_.1))) (Kd.R_base ho0) hb); have n1_ := Aside0.mk (Kd.R_lower (Kd.R_new' ho0 (Kd.R_lt (by (with_reducible repeat (first | apply rA | apply rN | apply rD)); exact (Kd.R_mono (Kd.R_far (p := ⟨gb597, 2, none⟩) (Kd.R_far (p := ⟨gb597, 1, none⟩) (Kd.R_far (p := ⟨gb597, 0, none⟩) (Kd.R_types HO594.out BK597.out (by decide)) (fun _ hk => hk.2) (.bool t591)) (fun _ hk => hk.2) (.slice Ao35 t592.length co35)) (fun _ hk => hk.2) (.int .i64 t595)) (fun _ h_ => h_.1))))) (below_size (bl_ HB))); have n2_ := Aside0.mk (blk_below (g := gb597) (o := .cells #[.bool t591, .slice Ao35 t592.length co35, .int .i64 t595] 43 (0, 0)) (by (with_reducible repeat (first | apply bN | apply bD | apply bA)); refine blk_put (cs := #[.bool t591, .slice Ao35 t592.length co35, .int .i64 0]) ?_ 2 _ rfl; (with_reducible repeat (first | apply bN | apply bD | apply bA)); refine blk_put (cs := #[.bool t591, .slice none 0 0, .int .i64 0]) ?_ 1 _ rfl; (with_reducible repeat (first | apply bN | apply bD | apply bA)); refine blk_put (cs := #[.bool false, .slice none 0 0, .int .i64 0]) ?_ 0 _ rfl; exact bk_ BK597) hb); have n3_ := bs_ HB hb; clear HO594; clear BK597; clear HB; have HO594 := n0_; have HO601 := n1_; have BK597 := n2_; have HB := n3_; clear n0_ n1_ n2_ n3_; (try clear hb); (try clear hb2); (try clear hk); (try clear hi); (try clear ho0)) | ((with_reducible refine gate_dst (N := 14) rfl ?_); refine box_event ?hg (N := 14) ?hd (cs := #[.bool false, .slice none 0 0, .int .i64 0]) (t := 43) ?hr ?_; (case hd => rfl); (case hg => rfl); (case hr => first | (go_simp; done) | (go_simp; rfl)); intro gb604 hg w37 hbox hb; have n0_ := Aside0.mk (Kd.R_below (rr_ HO594) hb); have n1_ := Aside0.mk (Kd.R_below (rr_ HO601) hb); have n2_ := kb_ BK597 hb; have n3_ := bs_ HB hb; have n4_ := Aside0.mk (hbox); have n5_ := ge_ HB hg; have n6_ := ge_ HB hg; have n7_ := nlt_ BK597 hg; have n8_ := ngt_ BK597 hg; clear HO594; clear HO601; clear BK597; clear HB; have HO594 := n0_; have HO601 := n1_; have BK597 := n2_; have HB := n3_; have BK604 := n4_; have GW604 := n5_; have GE604 := n6_; have NB597_604 := n7_; have NB604_597 := n8_; clear n0_ n1_ n2_ n3_ n4_ n5_ n6_ n7_ n8_; clear hb hbox hg; have hnb38 := NB604_597.out; have hnc38 := NB597_604.out; have hcz39_0 : w37.cell? ⟨gb604, 0, none⟩ = some (.bool false) := (blk_cell BK604.out 0).trans rfl; have hcz39_1 : w37.cell? ⟨gb604, 1, none⟩ = some (.slice none 0 0) := (blk_cell BK604.out 1).trans rfl; have hcz39_2 : w37.cell? ⟨gb604, 2, none⟩ = some (.int .i64 0) := (blk_cell BK604.out 2).trans rfl; have hfz39_0 := blk_frozen BK604.out 0; have hfz39_1 := blk_frozen BK604.out 1; have hfz39_2 := blk_frozen BK604.out 2; obtain ⟨Ao40, co40, eo40⟩ := Kd.R_slice HO601.out; subst eo40; have hcz41_0 : w37.cell? ⟨gb597, 0, none⟩ = some (.bool t591) := (blk_cell BK597.out 0).trans rfl; have hcz41_1 : w37.cell? ⟨gb597, 1, none⟩ = some (.slice Ao35 t592.length co35) := (blk_cell BK597.out 1).trans rfl; have hcz41_2 : w37.cell? ⟨gb597, 2, none⟩ = some (.int .i64 t595) := (blk_cell BK597.out 2).trans rfl; have hfz41_0 := blk_frozen BK597.out 0; have hfz41_1 := blk_frozen BK597.out 1; have hfz41_2 := blk_frozen BK597.out 2) | ((with_reducible refine gate_callee (f := 36) rfl ?_); refine goesM (some 82) Try.func36 #[.agg #[.bool t591, .slice Ao35 t592.length co35, .int .i64 t595], .agg #[.bool t598, .slice Ao40 t599.length co40, .int .i64 t602]] ?_; (with_reducible refine (r03_Mul.calls kj19 t591 _ _ t592 t595 t598 _ _ t599 t602 t605 t606 t609 t610 _ ?side1 ?side2 ?side3 ?side4 A30.out).mono ?_); (case side1 => refine (Kd.R_reads' (e := 72) (base := w.heap.size) (ok := fun k_ => (True ∧ some k_ ≠ (.slice Ao40 t599.length co40 : Value).ownBlock)) (n := t592.length) (c := co35) ?_).2.2; exact (by (with_reducible repeat (first | apply rA | apply rN | apply rD)); exact (Kd.R_mono (Kd.R_far (p := ⟨gb604, 2, none⟩) (Kd.R_far (p := ⟨gb604, 1, none⟩) (Kd.R_far (p := ⟨gb604, 0, none⟩) (Kd.R_types HO594.out BK604.out (by decide)) (fun _ hk => hk.2) (.bool t598)) (fun _ hk => hk.2) (.slice Ao40 t599.length co40)) (fun _ hk => hk.2) (.int .i64 t602)) (fun _ h_ => h_.1)))); (case side2 => exact (Kd.R_reads' HO594.out).2.1); (case side3 => refine (Kd.R_reads' (e := 72) (base := w.heap.size) (ok := fun k_ => (True ∧ some k_ ≠ (.slice Ao35 t592.length co35 : Value).ownBlock)) (n := t599.length) (c := co40) ?_).2.2; exact (by (with_reducible repeat (first | apply rA | apply rN | apply rD)); exact (Kd.R_mono (Kd.R_far (p := ⟨gb604, 2, none⟩) (Kd.R_far (p := ⟨gb604, 1, none⟩) (Kd.R_far (p := ⟨gb604, 0, none⟩) (Kd.R_types HO601.out BK604.out (by decide)) (fun _ hk => hk.2) (.bool t598)) (fun _ hk => hk.2) (.slice Ao40 t599.length co40)) (fun _ hk => hk.2) (.int .i64 t602)) (fun _ h_ => h_.1)))); (case side4 => exact (Kd.R_reads' HO601.out).2.1); rintro e w42 ⟨v607, rfl, ho0, hb⟩; refine ⟨_, rfl, ?_⟩; have n0_ := Aside0.mk (Kd.R_elder' (by (with_reducible repeat (first | apply rA | apply rN | apply rD)); exact (Kd.R_mono (Kd.R_far (p := ⟨gb604, 2, none⟩) (Kd.R_far (p := ⟨gb604, 1, none⟩) (Kd.R_far (p := ⟨gb604, 0, none⟩) (Kd.R_types HO594.out BK604.out (by decide)) (fun _ hk => hk.2) (.bool t598)) (fun _ hk => hk.2) (.slice Ao40 t599.length co40)) (fun _ hk => hk.2) (.int .i64 t602)) (fun _ h_ => h_.1))) (Kd.R_base ho0) hb); have n1_ := Aside0.mk (Kd.R_elder' (by (with_reducible repeat (first | apply rA | apply rN | apply rD)); exact (Kd.R_mono (Kd.R_far (p := ⟨gb604, 2, none⟩) (Kd.R_far (p := ⟨gb604, 1, none⟩) (Kd.R_far (p := ⟨gb604, 0, none⟩) (Kd.R_types HO601.out BK604.out (by decide)) (fun _ hk => hk.2) (.bool t598)) (fun _ hk => hk.2) (.slice Ao40 t599.length co40)) (fun _ hk => hk.2) (.int .i64 t602)) (fun _ h_ => h_.1))) (Kd.R_base ho0) hb); have n2_ := Aside0.mk (Kd.R_lower (Kd.R_new' (Kd.R_new' ho0 (Kd.R_lt (by (with_reducible repeat (first | apply rA | apply rN | apply rD)); exact (Kd.R_mono (Kd.R_far (p := ⟨gb604, 2, none⟩) (Kd.R_far (p := ⟨gb604, 1, none⟩) (Kd.R_far (p := ⟨gb604, 0, none⟩) (Kd.R_types HO594.out BK604.out (by decide)) (fun _ hk => hk.2) (.bool t598)) (fun _ hk => hk.2) (.slice Ao40 t599.length co40)) (fun _ hk => hk.2) (.int .i64 t602)) (fun _ h_ => h_.1))))) (Kd.R_lt (by (with_reducible repeat (first | apply rA | apply rN | apply rD)); exact (Kd.R_mono (Kd.R_far (p := ⟨gb604, 2, none⟩) (Kd.R_far (p := ⟨gb604, 1, none⟩) (Kd.R_far (p := ⟨gb604, 0, none⟩) (Kd.R_types HO601.out BK604.out (by decide)) (fun _ hk => hk.2) (.bool t598)) (fun _ hk => hk.2) (.slice Ao40 t599.length co40)) (fun _ hk => hk.2) (.int .i64 t602)) (fun _ h_ => h_.1))))) (below_size (bl_ HB))); have n3_ := Aside0.mk (blk_below (g := gb597) (o := .cells #[.bool t591, .slice Ao35 t592.length co35, .int .i64 t595] 43 (0, 0)) (by (with_reducible repeat (first | apply bN | apply bD | apply bA)); refine blk_far ?_ NB597_604.out _; (with_reducible repeat (first | apply bN | apply bD | apply bA)); refine blk_far ?_ NB597_604.out _; (with_reducible repeat (first | apply bN | apply bD | apply bA)); refine blk_far ?_ NB597_604.out _; exact bk_ BK597) hb); have n4_ := Aside0.mk (blk_below (g := gb604) (o := .cells #[.bool t598, .slice Ao40 t599.length co40, .int .i64 t602] 43 (0, 0)) (by (with_reducible repeat (first | apply bN | apply bD | apply bA)); refine blk_put (cs := #[.bool t598, .slice Ao40 t599.length co40, .int .i64 0]) ?_ 2 _ rfl; (with_reducible repeat (first | apply bN | apply bD | apply bA)); refine blk_put (cs := #[.bool t598, .slice none 0 0, .int .i64 0]) ?_ 1 _ rfl; (with_reducible repeat (first | apply bN | apply bD | apply bA)); refine blk_put (cs := #[.bool false, .slice none 0 0, .int .i64 0]) ?_ 0 _ rfl; exact bk_ BK604) hb); have n5_ := bs_ HB hb; clear HO594; clear HO601; clear BK597; clear BK604; clear HB; have HO594 := n0_; have HO601 := n1_; have HO608 := n2_; have BK597 := n3_; have BK604 := n4_; have HB := n5_; clear n0_ n1_ n2_ n3_ n4_ n5_; (try clear hb); (try clear hb2); (try clear hk); (try clear hi); (try clear ho0)) | ((with_reducible refine gate_dst (N := 16) rfl ?_); refine box_event ?hg (N := 16) ?hd (cs := #[.bool false, .slice none 0 0, .int .i64 0]) (t := 43) ?hr ?_; (case hd => rfl); (case hg => rfl); (case hr => first | (go_simp; done) | (go_simp; rfl)); intro gb611 hg w43 hbox hb; have n0_ := Aside0.mk (Kd.R_below (rr_ HO594) hb); have n1_ := Aside0.mk (Kd.R_below (rr_ HO601) hb); have n2_ := Aside0.mk (Kd.R_below (rr_ HO608) hb); have n3_ := kb_ BK597 hb; have n4_ := kb_ BK604 hb; have n5_ := bs_ HB hb; have n6_ := Aside0.mk (hbox); have n7_ := ge_ HB hg; have n8_ := ge_ HB hg; have n9_ := nlt_ BK597 hg; have n10_ := ngt_ BK597 hg; have n11_ := nlt_ BK604 hg; have n12_ := ngt_ BK604 hg; clear HO594; clear HO601; clear HO608; clear BK597; clear BK604; clear HB; have HO594 := n0_; have HO601 := n1_; have HO608 := n2_; have BK597 := n3_; have BK604 := n4_; have HB := n5_; have BK611 := n6_; have GW611 := n7_; have GE611 := n8_; have NB597_611 := n9_; have NB611_597 := n10_; have NB604_611 := n11_; have NB611_604 := n12_; clear n0_ n1_ n2_ n3_ n4_ n5_ n6_ n7_ n8_ n9_ n10_ n11_ n12_; clear hb hbox hg; have hnb44 := NB611_597.out; have hnc44 := NB597_611.out; have hnb45 := NB611_604.out; have hnc45 := NB604_611.out; have hcz46_0 : w43.cell? ⟨gb611, 0, none⟩ = some (.bool false) := (blk_cell BK611.out 0).trans rfl; have hcz46_1 : w43.cell? ⟨gb611, 1, none⟩ = some (.slice none 0 0) := (blk_cell BK611.out 1).trans rfl; have hcz46_2 : w43.cell? ⟨gb611, 2, none⟩ = some (.int .i64 0) := (blk_cell BK611.out 2).trans rfl; have hfz46_0 := blk_frozen BK611.out 0; have hfz46_1 := blk_frozen BK611.out 1; have hfz46_2 := blk_frozen BK611.out 2; obtain ⟨Ao47, co47, eo47⟩ := Kd.R_slice HO608.out; subst eo47) | ((with_reducible refine gate_callee (f := 70) rfl ?_); refine goesM (some 87) Try.func70 #[.agg #[.bool t605, .slice Ao47 t606.length co47, .int .i64 t609], .int .i64 0] ?_; (with_reducible refine (r03_Round.calls kj19 t605 _ _ t606 t609 0 t612 t613 _ ?side1 ?side2 A31.out).mono ?_); (case side1 => refine (Kd.R_reads' (e := 72) (base := w.heap.size) (ok := fun k_ => ((True ∧ some k_ ≠ (.slice Ao35 t592.length co35 : Value).ownBlock) ∧ some k_ ≠ (.slice Ao40 t599.length co40 : Value).ownBlock)) (n := t606.length) (c := co47) ?_).2.2; exact (by (with_reducible repeat (first | apply rA | apply rN | apply rD)); exact (Kd.R_mono (Kd.R_far (p := ⟨gb611, 2, none⟩) (Kd.R_far (p := ⟨gb611, 1, none⟩) (Kd.R_far (p := ⟨gb611, 0, none⟩) (Kd.R_types HO608.out BK611.out (by decide)) (fun _ hk => hk.2) (.bool t605)) (fun _ hk => hk.2) (.slice Ao47 t606.length co47)) (fun _ hk => hk.2) (.int .i64 t609)) (fun _ h_ => h_.1)))); (case side2 => exact (Kd.R_reads' HO608.out).2.1); rintro e w48 ⟨rfl, hb⟩; refine ⟨_, rfl, ?_⟩; have n0_ := Aside0.mk (Kd.R_below (by (with_reducible repeat (first | apply rA | apply rN | apply rD)); exact (Kd.R_mono (Kd.R_far (p := ⟨gb611, 2, none⟩) (Kd.R_far (p := ⟨gb611, 1, none⟩) (Kd.R_far (p := ⟨gb611, 0, none⟩) (Kd.R_types HO594.out BK611.out (by decide)) (fun _ hk => hk.2) (.bool t605)) (fun _ hk => hk.2) (.slice Ao47 t606.length co47)) (fun _ hk => hk.2) (.int .i64 t609)) (fun _ h_ => h_.1))) hb); have n1_ := Aside0.mk (Kd.R_below (by (with_reducible repeat (first | apply rA | apply rN | apply rD)); exact (Kd.R_mono (Kd.R_far (p := ⟨gb611, 2, none⟩) (Kd.R_far (p := ⟨gb611, 1, none⟩) (Kd.R_far (p := ⟨gb611, 0, none⟩) (Kd.R_types HO601.out BK611.out (by decide)) (fun _ hk => hk.2) (.bool t605)) (fun _ hk => hk.2) (.slice Ao47 t606.length co47)) (fun _ hk => hk.2) (.int .i64 t609)) (fun _ h_ => h_.1))) hb); have n2_ := Aside0.mk (Kd.R_below (by (with_reducible repeat (first | apply rA | apply rN | apply rD)); exact (Kd.R_mono (Kd.R_far (p := ⟨gb611, 2, none⟩) (Kd.R_far (p := ⟨gb611, 1, none⟩) (Kd.R_far (p := ⟨gb611, 0, none⟩) (Kd.R_types HO608.out BK611.out (by decide)) (fun _ hk => hk.2) (.bool t605)) (fun _ hk => hk.2) (.slice Ao47 t606.length co47)) (fun _ hk => hk.2) (.int .i64 t609)) (fun _ h_ => h_.1))) hb); have n3_ := Aside0.mk (blk_below (g := gb597) (o := .cells #[.bool t591, .slice Ao35 t592.length co35, .int .i64 t595] 43 (0, 0)) (by (with_reducible repeat (first | apply bN | apply bD | apply bA)); refine blk_far ?_ NB597_611.out _; (with_reducible repeat (first | apply bN | apply bD | apply bA)); refine blk_far ?_ NB597_611.out _; (with_reducible repeat (first | apply bN | apply bD | apply bA)); refine blk_far ?_ NB597_611.out _; exact bk_ BK597) hb); have n4_ := Aside0.mk (blk_below (g := gb604) (o := .cells #[.bool t598, .slice Ao40 t599.length co40, .int .i64 t602] 43 (0, 0)) (by (with_reducible repeat (first | apply bN | apply bD | apply bA)); refine blk_far ?_ NB604_611.out _; (with_reducible repeat (first | apply bN | apply bD | apply bA)); refine blk_far ?_ NB604_611.out _; (with_reducible repeat (first | apply bN | apply bD | apply bA)); refine blk_far ?_ NB604_611.out _; exact bk_ BK604) hb); have n5_ := Aside0.mk (blk_below (g := gb611) (o := .cells #[.bool t605, .slice Ao47 t606.length co47, .int .i64 t609] 43 (0, 0)) (by (with_reducible repeat (first | apply bN | apply bD | apply bA)); refine blk_put (cs := #[.bool t605, .slice Ao47 t606.length co47, .int .i64 0]) ?_ 2 _ rfl; (with_reducible repeat (first | apply bN | apply bD | apply bA)); refine blk_put (cs := #[.bool t605, .slice none 0 0, .int .i64 0]) ?_ 1 _ rfl; (with_reducible repeat (first | apply bN | apply bD | apply bA)); refine blk_put (cs := #[.bool false, .slice none 0 0, .int .i64 0]) ?_ 0 _ rfl; exact bk_ BK611) hb); have n6_ := bs_ HB hb; clear HO594; clear HO601; clear HO608; clear BK597; clear BK604; clear BK611; clear HB; have HO594 := n0_; have HO601 := n1_; have HO608 := n2_; have BK597 := n3_; have BK604 := n4_; have BK611 := n5_; have HB := n6_; clear n0_ n1_ n2_ n3_ n4_ n5_ n6_; (try clear hb); (try clear hb2); (try clear hk); (try clear hi)))
         go_ret
         exact ⟨by first | rfl | (simp [errW_none, errW_some] <;> rfl) | (simp [*, errW_none, errW_some] <;> rfl), bl_ HB⟩

end Go.Proofs.Ytdemanikmaafeaa.Pr
-- written by this session's own program (wip/fprint.py), which widens the kit's print by floats
namespace Go.Proofs.Ytdemanikmaafeaa.Pr
open Go.RowKit Go.Proofs.YtdemanikmaafeaaW.PrintWords Go.Proofs.YtdemanikmaafeaaW.PrintLast Go.Proofs.YtdemanikmaafeaaW.PrintMore
attribute [local go_sem] max2_int min2_int max_two min_two max_three min_three max_four min_four   -- for this text's walks alone
set_option linter.unusedVariables false
set_option linter.unusedSimpArgs false

/-! ### r05_Halves: function 20 -/
def r05_Halves.f (k : Nat) (a0 : Nat) : Option (Nat × Nat) := (r05_Times.f k 4728779608772575232 a0).bind fun t615 => ((r05_Minus.f k a0 t615).bind fun t616 => ((r05_Plus.f k t615 t616).bind fun t617 => ((r05_Minus.f k a0 t617).bind fun t618 => (some (t617, t618)))))
theorem r05_Halves.mono : ∀ a0 k, LeO (r05_Halves.f k a0) (r05_Halves.f (k + 1) a0) := by
 intro a0 k
 unfold r05_Halves.f
 repeat' first
   | (with_reducible exact r05_Minus.mono _ _ _)
   | (with_reducible exact r05_Plus.mono _ _ _)
   | (with_reducible exact r05_Times.mono _ _ _)
   | (with_reducible exact LeO.refl _)
   | (with_reducible exact LeO.none _)
   | (with_reducible refine LeO.ite ?_ ?_)
   | (with_reducible refine LeO.bind ?_ (fun _ => ?_))
   | exact r05_Minus.mono _ _ _
   | exact r05_Plus.mono _ _ _
   | exact r05_Times.mono _ _ _
   | exact LeO.none _
   | refine LeO.ite ?_ ?_
   | refine LeO.bind ?_ (fun _ => ?_)
set_option maxHeartbeats 3000000 in
set_option maxRecDepth 100000 in
theorem r05_Halves.calls (k : Nat) (a0 : Nat) (r1 : Nat) (r2 : Nat) (w : World) (h : r05_Halves.f k a0 = some (r1, r2)) :
  Calls Try.prog 20 #[.float .f64 a0] w fun e w' => e = .returned (.agg #[.float .f64 r1, .float .f64 r2]) ∧ Below w.heap.size w w' := by
 have hu30 := Try.underlying30
 have HB := Aside0.mk (Below.refl w.heap.size w)
 have H : ((r05_Times.f k 4728779608772575232 a0).bind fun t615 => ((r05_Minus.f k a0 t615).bind fun t616 => ((r05_Plus.f k t615 t616).bind fun t617 => ((r05_Minus.f k a0 t617).bind fun t618 => (some (t617, t618)))))) = some (r1, r2) := h
 clear h
 obtain ⟨t615, A2, H⟩ := ob_ H
 try dsimp only at H
 obtain ⟨t616, A3, H⟩ := ob_ H
 try dsimp only at H
 obtain ⟨t617, A4, H⟩ := ob_ H
 try dsimp only at H
 obtain ⟨t618, A5, H⟩ := ob_ H
 try dsimp only at H
 simp only [Option.some.injEq, Prod.mk.injEq] at H
 obtain ⟨rfl, rfl⟩ := H
 go_enter Try.func20, Try.ntmps20
 go_wp2_with (first | ((with_reducible refine gate_dst (N := 2) rfl ?_); refine box_event ?hg (N := 2) ?hd (cs := #[.float .f64 0, .float .f64 0]) (t := 30) ?hr ?_; (case hd => rfl); (case hg => rfl); (case hr => first | (go_simp; done) | (go_simp; rfl)); intro gb614 hg w6 hbox hb; have n0_ := bs_ HB hb; have n1_ := Aside0.mk (hbox); have n2_ := ge_ HB hg; have n3_ := ge_ HB hg; clear HB; have HB := n0_; have BK614 := n1_; have GW614 := n2_; have GE614 := n3_; clear n0_ n1_ n2_ n3_; clear hb hbox hg) | ((with_reducible refine gate_callee (f := 46) rfl ?_); refine goesM (some 8) Try.func46 #[.float .f64 4728779608772575232, .float .f64 a0] ?_; (with_reducible refine (r05_Times.calls k 4728779608772575232 a0 t615 _ A2.out).mono ?_); rintro e w7 ⟨rfl, hb⟩; refine ⟨_, rfl, ?_⟩; have n0_ := kb_ BK614 hb; have n1_ := bs_ HB hb; clear BK614; clear HB; have BK614 := n0_; have HB := n1_; clear n0_ n1_; (try clear hb); (try clear hb2); (try clear hk); (try clear hi)) | ((with_reducible refine gate_callee (f := 44) rfl ?_); refine goesM (some 11) Try.func44 #[.float .f64 a0, .float .f64 t615] ?_; (with_reducible refine (r05_Minus.calls k a0 t615 t616 _ A3.out).mono ?_); rintro e w8 ⟨rfl, hb⟩; refine ⟨_, rfl, ?_⟩; have n0_ := kb_ BK614 hb; have n1_ := bs_ HB hb; clear BK614; clear HB; have BK614 := n0_; have HB := n1_; clear n0_ n1_; (try clear hb); (try clear hb2); (try clear hk); (try clear hi)) | ((with_reducible refine gate_callee (f := 43) rfl ?_); refine goesM (some 14) Try.func43 #[.float .f64 t615, .float .f64 t616] ?_; (with_reducible refine (r05_Plus.calls k t615 t616 t617 _ A4.out).mono ?_); rintro e w9 ⟨rfl, hb⟩; refine ⟨_, rfl, ?_⟩; have n0_ := kb_ BK614 hb; have n1_ := bs_ HB hb; clear BK614; clear HB; have BK614 := n0_; have HB := n1_; clear n0_ n1_; (try clear hb); (try clear hb2); (try clear hk); (try clear hi)) | ((with_reducible refine gate_callee (f := 44) rfl ?_); refine goesM (some 17) Try.func44 #[.float .f64 a0, .float .f64 t617] ?_; (with_reducible refine (r05_Minus.calls k a0 t617 t618 _ A5.out).mono ?_); rintro e w10 ⟨rfl, hb⟩; refine ⟨_, rfl, ?_⟩; have n0_ := kb_ BK614 hb; have n1_ := bs_ HB hb; clear BK614; clear HB; have BK614 := n0_; have HB := n1_; clear n0_ n1_; (try clear hb); (try clear hb2); (try clear hk); (try clear hi); have hcz11_0 : w10.cell? ⟨gb614, 0, none⟩ = some (.float .f64 0) := (blk_cell BK614.out 0).trans rfl; have hcz11_1 : w10.cell? ⟨gb614, 1, none⟩ = some (.float .f64 0) := (blk_cell BK614.out 1).trans rfl; have hfz11_0 := blk_frozen BK614.out 0; have hfz11_1 := blk_frozen BK614.out 1))
 refine bodyPost_ret (results_cell_row rfl _ _ gb614 30 #[.float .f64 t617, .float .f64 t618] (0, 0) _ rfl (by (with_reducible repeat (first | apply bN | apply bD | apply bA)); refine blk_put (cs := #[.float .f64 t617, .float .f64 0]) ?_ 1 _ rfl; (with_reducible repeat (first | apply bN | apply bD | apply bA)); refine blk_put (cs := #[.float .f64 0, .float .f64 0]) ?_ 0 _ rfl; exact bk_ BK614) Try.underlying30 rfl (by kernel_rfl)) rfl ?_
 exact ⟨by first | rfl | (simp [errW_none, errW_some] <;> rfl) | (simp [*, errW_none, errW_some] <;> rfl), bl_ HB⟩

/-! ### r05_Product: function 21 -/
def r05_Product.f (k : Nat) (a0 : Nat) (a1 : Nat) : Option (Nat × Nat) := (r05_Times.f k a0 a1).bind fun t620 => ((r05_Halves.f k a0).bind fun bt621 => ((r05_Halves.f k a1).bind fun bt624 => ((r05_Times.f k bt621.1 bt624.1).bind fun t627 => ((r05_Minus.f k t627 t620).bind fun t628 => ((r05_Times.f k bt621.1 bt624.2).bind fun t629 => ((r05_Plus.f k t628 t629).bind fun t630 => ((r05_Times.f k bt621.2 bt624.1).bind fun t631 => ((r05_Plus.f k t630 t631).bind fun t632 => ((r05_Times.f k bt621.2 bt624.2).bind fun t633 => ((r05_Plus.f k t632 t633).bind fun t634 => (some (t620, t634))))))))))))
theorem r05_Product.mono : ∀ a0 a1 k, LeO (r05_Product.f k a0 a1) (r05_Product.f (k + 1) a0 a1) := by
 intro a0 a1 k
 unfold r05_Product.f
 repeat' first
   | (with_reducible exact r05_Halves.mono _ _)
   | (with_reducible exact r05_Minus.mono _ _ _)
   | (with_reducible exact r05_Plus.mono _ _ _)
   | (with_reducible exact r05_Times.mono _ _ _)
   | (with_reducible exact LeO.refl _)
   | (with_reducible exact LeO.none _)
   | (with_reducible refine LeO.ite ?_ ?_)
   | (with_reducible refine LeO.bind ?_ (fun _ => ?_))
   | exact r05_Halves.mono _ _
   | exact r05_Minus.mono _ _ _
   | exact r05_Plus.mono _ _ _
   | exact r05_Times.mono _ _ _
   | exact LeO.none _
   | refine LeO.ite ?_ ?_
   | refine LeO.bind ?_ (fun _ => ?_)
set_option maxHeartbeats 3000000 in
set_option maxRecDepth 100000 in
theorem r05_Product.calls (k : Nat) (a0 : Nat) (a1 : Nat) (r1 : Nat) (r2 : Nat) (w : World) (h : r05_Product.f k a0 a1 = some (r1, r2)) :
  Calls Try.prog 21 #[.float .f64 a0, .float .f64 a1] w fun e w' => e = .returned (.agg #[.float .f64 r1, .float .f64 r2]) ∧ Below w.heap.size w w' := by
 have hu30 := Try.underlying30
 have HB := Aside0.mk (Below.refl w.heap.size w)
 have H : ((r05_Times.f k a0 a1).bind fun t620 => ((r05_Halves.f k a0).bind fun bt621 => ((r05_Halves.f k a1).bind fun bt624 => ((r05_Times.f k bt621.1 bt624.1).bind fun t627 => ((r05_Minus.f k t627 t620).bind fun t628 => ((r05_Times.f k bt621.1 bt624.2).bind fun t629 => ((r05_Plus.f k t628 t629).bind fun t630 => ((r05_Times.f k bt621.2 bt624.1).bind fun t631 => ((r05_Plus.f k t630 t631).bind fun t632 => ((r05_Times.f k bt621.2 bt624.2).bind fun t633 => ((r05_Plus.f k t632 t633).bind fun t634 => (some (t620, t634))))))))))))) = some (r1, r2) := h
 clear h
 obtain ⟨t620, A3, H⟩ := ob_ H
 try dsimp only at H
 obtain ⟨⟨t621, t622⟩, A4, H⟩ := ob_ H
 try dsimp only at H
 obtain ⟨⟨t624, t625⟩, A5, H⟩ := ob_ H
 try dsimp only at H
 obtain ⟨t627, A6, H⟩ := ob_ H
 try dsimp only at H
 obtain ⟨t628, A7, H⟩ := ob_ H
 try dsimp only at H
 obtain ⟨t629, A8, H⟩ := ob_ H
 try dsimp only at H
 obtain ⟨t630, A9, H⟩ := ob_ H
 try dsimp only at H
 obtain ⟨t631, A10, H⟩ := ob_ H
 try dsimp only at H
 obtain ⟨t632, A11, H⟩ := ob_ H
 try dsimp only at H
 obtain ⟨t633, A12, H⟩ := ob_ H
 try dsimp only at H
 obtain ⟨t634, A13, H⟩ := ob_ H
 try dsimp only at H
 simp only [Option.some.injEq, Prod.mk.injEq] at H
 obtain ⟨rfl, rfl⟩ := H
 go_enter Try.func21, Try.ntmps21
 go_wp2_with (first | ((with_reducible refine gate_dst (N := 4) rfl ?_); refine box_event ?hg (N := 4) ?hd (cs := #[.float .f64 0, .float .f64 0]) (t := 30) ?hr ?_; (case hd => rfl); (case hg => rfl); (case hr => first | (go_simp; done) | (go_simp; rfl)); intro gb619 hg w14 hbox hb; have n0_ := bs_ HB hb; have n1_ := Aside0.mk (hbox); have n2_ := ge_ HB hg; have n3_ := ge_ HB hg; clear HB; have HB := n0_; have BK619 := n1_; have GW619 := n2_; have GE619 := n3_; clear n0_ n1_ n2_ n3_; clear hb hbox hg) | ((with_reducible refine gate_callee (f := 46) rfl ?_); refine goesM (some 18) Try.func46 #[.float .f64 a0, .float .f64 a1] ?_; (with_reducible refine (r05_Times.calls k a0 a1 t620 _ A3.out).mono ?_); rintro e w15 ⟨rfl, hb⟩; refine ⟨_, rfl, ?_⟩; have n0_ := kb_ BK619 hb; have n1_ := bs_ HB hb; clear BK619; clear HB; have BK619 := n0_; have HB := n1_; clear n0_ n1_; (try clear hb); (try clear hb2); (try clear hk); (try clear hi)) | ((with_reducible refine gate_callee (f := 20) rfl ?_); refine goesM (some 20) Try.func20 #[.float .f64 a0] ?_; (with_reducible refine (r05_Halves.calls k a0 t621 t622 _ A4.out).mono ?_); rintro e w16 ⟨rfl, hb⟩; refine ⟨_, rfl, ?_⟩; have n0_ := kb_ BK619 hb; have n1_ := bs_ HB hb; clear BK619; clear HB; have BK619 := n0_; have HB := n1_; clear n0_ n1_; (try clear hb); (try clear hb2); (try clear hk); (try clear hi)) | ((with_reducible refine gate_dst (N := 6) rfl ?_); refine box_event ?hg (N := 6) ?hd (cs := #[.float .f64 0, .float .f64 0]) (t := 30) ?hr ?_; (case hd => rfl); (case hg => rfl); (case hr => first | (go_simp; done) | (go_simp; rfl)); intro gb623 hg w17 hbox hb; have n0_ := kb_ BK619 hb; have n1_ := bs_ HB hb; have n2_ := Aside0.mk (hbox); have n3_ := ge_ HB hg; have n4_ := ge_ HB hg; have n5_ := nlt_ BK619 hg; have n6_ := ngt_ BK619 hg; clear BK619; clear HB; have BK619 := n0_; have HB := n1_; have BK623 := n2_; have GW623 := n3_; have GE623 := n4_; have NB619_623 := n5_; have NB623_619 := n6_; clear n0_ n1_ n2_ n3_ n4_ n5_ n6_; clear hb hbox hg; have hnb18 := NB623_619.out; have hnc18 := NB619_623.out; have hcz19_0 : w17.cell? ⟨gb623, 0, none⟩ = some (.float .f64 0) := (blk_cell BK623.out 0).trans rfl; have hcz19_1 : w17.cell? ⟨gb623, 1, none⟩ = some (.float .f64 0) := (blk_cell BK623.out 1).trans rfl; have hfz19_0 := blk_frozen BK623.out 0; have hfz19_1 := blk_frozen BK623.out 1) | ((with_reducible refine gate_callee (f := 20) rfl ?_); refine goesM (some 22) Try.func20 #[.float .f64 a1] ?_; (with_reducible refine (r05_Halves.calls k a1 t624 t625 _ A5.out).mono ?_); rintro e w20 ⟨rfl, hb⟩; refine ⟨_, rfl, ?_⟩; have n0_ := Aside0.mk (blk_below (g := gb619) (o := .cells #[.float .f64 0, .float .f64 0] 30 (0, 0)) (by (with_reducible repeat (first | apply bN | apply bD | apply bA)); refine blk_far ?_ NB619_623.out _; (with_reducible repeat (first | apply bN | apply bD | apply bA)); refine blk_far ?_ NB619_623.out _; exact bk_ BK619) hb); have n1_ := Aside0.mk (blk_below (g := gb623) (o := .cells #[.float .f64 t621, .float .f64 t622] 30 (0, 0)) (by (with_reducible repeat (first | apply bN | apply bD | apply bA)); refine blk_put (cs := #[.float .f64 t621, .float .f64 0]) ?_ 1 _ rfl; (with_reducible repeat (first | apply bN | apply bD | apply bA)); refine blk_put (cs := #[.float .f64 0, .float .f64 0]) ?_ 0 _ rfl; exact bk_ BK623) hb); have n2_ := bs_ HB hb; clear BK619; clear BK623; clear HB; have BK619 := n0_; have BK623 := n1_; have HB := n2_; clear n0_ n1_ n2_; (try clear hb); (try clear hb2); (try clear hk); (try clear hi)) | ((with_reducible refine gate_dst (N := 7) rfl ?_); refine box_event ?hg (N := 7) ?hd (cs := #[.float .f64 0, .float .f64 0]) (t := 30) ?hr ?_; (case hd => rfl); (case hg => rfl); (case hr => first | (go_simp; done) | (go_simp; rfl)); intro gb626 hg w21 hbox hb; have n0_ := kb_ BK619 hb; have n1_ := kb_ BK623 hb; have n2_ := bs_ HB hb; have n3_ := Aside0.mk (hbox); have n4_ := ge_ HB hg; have n5_ := ge_ HB hg; have n6_ := nlt_ BK619 hg; have n7_ := ngt_ BK619 hg; have n8_ := nlt_ BK623 hg; have n9_ := ngt_ BK623 hg; clear BK619; clear BK623; clear HB; have BK619 := n0_; have BK623 := n1_; have HB := n2_; have BK626 := n3_; have GW626 := n4_; have GE626 := n5_; have NB619_626 := n6_; have NB626_619 := n7_; have NB623_626 := n8_; have NB626_623 := n9_; clear n0_ n1_ n2_ n3_ n4_ n5_ n6_ n7_ n8_ n9_; clear hb hbox hg; have hnb22 := NB626_619.out; have hnc22 := NB619_626.out; have hnb23 := NB626_623.out; have hnc23 := NB623_626.out; have hcz24_0 : w21.cell? ⟨gb626, 0, none⟩ = some (.float .f64 0) := (blk_cell BK626.out 0).trans rfl; have hcz24_1 : w21.cell? ⟨gb626, 1, none⟩ = some (.float .f64 0) := (blk_cell BK626.out 1).trans rfl; have hfz24_0 := blk_frozen BK626.out 0; have hfz24_1 := blk_frozen BK626.out 1; have hcz25_0 : w21.cell? ⟨gb623, 0, none⟩ = some (.float .f64 t621) := (blk_cell BK623.out 0).trans rfl; have hcz25_1 : w21.cell? ⟨gb623, 1, none⟩ = some (.float .f64 t622) := (blk_cell BK623.out 1).trans rfl; have hfz25_0 := blk_frozen BK623.out 0; have hfz25_1 := blk_frozen BK623.out 1) | ((with_reducible refine gate_callee (f := 46) rfl ?_); refine goesM (some 27) Try.func46 #[.float .f64 t621, .float .f64 t624] ?_; (with_reducible refine (r05_Times.calls k t621 t624 t627 _ A6.out).mono ?_); rintro e w26 ⟨rfl, hb⟩; refine ⟨_, rfl, ?_⟩; have n0_ := Aside0.mk (blk_below (g := gb619) (o := .cells #[.float .f64 0, .float .f64 0] 30 (0, 0)) (by (with_reducible repeat (first | apply bN | apply bD | apply bA)); refine blk_far ?_ NB619_626.out _; (with_reducible repeat (first | apply bN | apply bD | apply bA)); refine blk_far ?_ NB619_626.out _; exact bk_ BK619) hb); have n1_ := Aside0.mk (blk_below (g := gb623) (o := .cells #[.float .f64 t621, .float .f64 t622] 30 (0, 0)) (by (with_reducible repeat (first | apply bN | apply bD | apply bA)); refine blk_far ?_ NB623_626.out _; (with_reducible repeat (first | apply bN | apply bD | apply bA)); refine blk_far ?_ NB623_626.out _; exact bk_ BK623) hb); have n2_ := Aside0.mk (blk_below (g := gb626) (o := .cells #[.float .f64 t624, .float .f64 t625] 30 (0, 0)) (by (with_reducible repeat (first | apply bN | apply bD | apply bA)); refine blk_put (cs := #[.float .f64 t624, .float .f64 0]) ?_ 1 _ rfl; (with_reducible repeat (first | apply bN | apply bD | apply bA)); refine blk_put (cs := #[.float .f64 0, .float .f64 0]) ?_ 0 _ rfl; exact bk_ BK626) hb); have n3_ := bs_ HB hb; clear BK619; clear BK623; clear BK626; clear HB; have BK619 := n0_; have BK623 := n1_; have BK626 := n2_; have HB := n3_; clear n0_ n1_ n2_ n3_; (try clear hb); (try clear hb2); (try clear hk); (try clear hi)) | ((with_reducible refine gate_callee (f := 44) rfl ?_); refine goesM (some 30) Try.func44 #[.float .f64 t627, .float .f64 t620] ?_; (with_reducible refine (r05_Minus.calls k t627 t620 t628 _ A7.out).mono ?_); rintro e w27 ⟨rfl, hb⟩; refine ⟨_, rfl, ?_⟩; have n0_ := kb_ BK619 hb; have n1_ := kb_ BK623 hb; have n2_ := kb_ BK626 hb; have n3_ := bs_ HB hb; clear BK619; clear BK623; clear BK626; clear HB; have BK619 := n0_; have BK623 := n1_; have BK626 := n2_; have HB := n3_; clear n0_ n1_ n2_ n3_; (try clear hb); (try clear hb2); (try clear hk); (try clear hi); have hcz28_0 : w27.cell? ⟨gb623, 0, none⟩ = some (.float .f64 t621) := (blk_cell BK623.out 0).trans rfl; have hcz28_1 : w27.cell? ⟨gb623, 1, none⟩ = some (.float .f64 t622) := (blk_cell BK623.out 1).trans rfl; have hfz28_0 := blk_frozen BK623.out 0; have hfz28_1 := blk_frozen BK623.out 1; have hcz29_0 : w27.cell? ⟨gb626, 0, none⟩ = some (.float .f64 t624) := (blk_cell BK626.out 0).trans rfl; have hcz29_1 : w27.cell? ⟨gb626, 1, none⟩ = some (.float .f64 t625) := (blk_cell BK626.out 1).trans rfl; have hfz29_0 := blk_frozen BK626.out 0; have hfz29_1 := blk_frozen BK626.out 1) | ((with_reducible refine gate_callee (f := 46) rfl ?_); refine goesM (some 35) Try.func46 #[.float .f64 t621, .float .f64 t625] ?_; (with_reducible refine (r05_Times.calls k t621 t625 t629 _ A8.out).mono ?_); rintro e w30 ⟨rfl, hb⟩; refine ⟨_, rfl, ?_⟩; have n0_ := kb_ BK619 hb; have n1_ := kb_ BK623 hb; have n2_ := kb_ BK626 hb; have n3_ := bs_ HB hb; clear BK619; clear BK623; clear BK626; clear HB; have BK619 := n0_; have BK623 := n1_; have BK626 := n2_; have HB := n3_; clear n0_ n1_ n2_ n3_; (try clear hb); (try clear hb2); (try clear hk); (try clear hi)) | ((with_reducible refine gate_callee (f := 43) rfl ?_); refine goesM (some 38) Try.func43 #[.float .f64 t628, .float .f64 t629] ?_; (with_reducible refine (r05_Plus.calls k t628 t629 t630 _ A9.out).mono ?_); rintro e w31 ⟨rfl, hb⟩; refine ⟨_, rfl, ?_⟩; have n0_ := kb_ BK619 hb; have n1_ := kb_ BK623 hb; have n2_ := kb_ BK626 hb; have n3_ := bs_ HB hb; clear BK619; clear BK623; clear BK626; clear HB; have BK619 := n0_; have BK623 := n1_; have BK626 := n2_; have HB := n3_; clear n0_ n1_ n2_ n3_; (try clear hb); (try clear hb2); (try clear hk); (try clear hi); have hcz32_0 : w31.cell? ⟨gb623, 0, none⟩ = some (.float .f64 t621) := (blk_cell BK623.out 0).trans rfl; have hcz32_1 : w31.cell? ⟨gb623, 1, none⟩ = some (.float .f64 t622) := (blk_cell BK623.out 1).trans rfl; have hfz32_0 := blk_frozen BK623.out 0; have hfz32_1 := blk_frozen BK623.out 1; have hcz33_0 : w31.cell? ⟨gb626, 0, none⟩ = some (.float .f64 t624) := (blk_cell BK626.out 0).trans rfl; have hcz33_1 : w31.cell? ⟨gb626, 1, none⟩ = some (.float .f64 t625) := (blk_cell BK626.out 1).trans rfl; have hfz33_0 := blk_frozen BK626.out 0; have hfz33_1 := blk_frozen BK626.out 1) | ((with_reducible refine gate_callee (f := 46) rfl ?_); refine goesM (some 43) Try.func46 #[.float .f64 t622, .float .f64 t624] ?_; (with_reducible refine (r05_Times.calls k t622 t624 t631 _ A10.out).mono ?_); rintro e w34 ⟨rfl, hb⟩; refine ⟨_, rfl, ?_⟩; have n0_ := kb_ BK619 hb; have n1_ := kb_ BK623 hb; have n2_ := kb_ BK626 hb; have n3_ := bs_ HB hb; clear BK619; clear BK623; clear BK626; clear HB; have BK619 := n0_; have BK623 := n1_; have BK626 := n2_; have HB := n3_; clear n0_ n1_ n2_ n3_; (try clear hb); (try clear hb2); (try clear hk); (try clear hi)) | ((with_reducible refine gate_callee (f := 43) rfl ?_); refine goesM (some 46) Try.func43 #[.float .f64 t630, .float .f64 t631] ?_; (with_reducible refine (r05_Plus.calls k t630 t631 t632 _ A11.out).mono ?_); rintro e w35 ⟨rfl, hb⟩; refine ⟨_, rfl, ?_⟩; have n0_ := kb_ BK619 hb; have n1_ := kb_ BK623 hb; have n2_ := kb_ BK626 hb; have n3_ := bs_ HB hb; clear BK619; clear BK623; clear BK626; clear HB; have BK619 := n0_; have BK623 := n1_; have BK626 := n2_; have HB := n3_; clear n0_ n1_ n2_ n3_; (try clear hb); (try clear hb2); (try clear hk); (try clear hi); have hcz36_0 : w35.cell? ⟨gb623, 0, none⟩ = some (.float .f64 t621) := (blk_cell BK623.out 0).trans rfl; have hcz36_1 : w35.cell? ⟨gb623, 1, none⟩ = some (.float .f64 t622) := (blk_cell BK623.out 1).trans rfl; have hfz36_0 := blk_frozen BK623.out 0; have hfz36_1 := blk_frozen BK623.out 1; have hcz37_0 : w35.cell? ⟨gb626, 0, none⟩ = some (.float .f64 t624) := (blk_cell BK626.out 0).trans rfl; have hcz37_1 : w35.cell? ⟨gb626, 1, none⟩ = some (.float .f64 t625) := (blk_cell BK626.out 1).trans rfl; have hfz37_0 := blk_frozen BK626.out 0; have hfz37_1 := blk_frozen BK626.out 1) | ((with_reducible refine gate_callee (f := 46) rfl ?_); refine goesM (some 51) Try.func46 #[.float .f64 t622, .float .f64 t625] ?_; (with_reducible refine (r05_Times.calls k t622 t625 t633 _ A12.out).mono ?_); rintro e w38 ⟨rfl, hb⟩; refine ⟨_, rfl, ?_⟩; have n0_ := kb_ BK619 hb; have n1_ := kb_ BK623 hb; have n2_ := kb_ BK626 hb; have n3_ := bs_ HB hb; clear BK619; clear BK623; clear BK626; clear HB; have BK619 := n0_; have BK623 := n1_; have BK626 := n2_; have HB := n3_; clear n0_ n1_ n2_ n3_; (try clear hb); (try clear hb2); (try clear hk); (try clear hi)) | ((with_reducible refine gate_callee (f := 43) rfl ?_); refine goesM (some 54) Try.func43 #[.float .f64 t632, .float .f64 t633] ?_; (with_reducible refine (r05_Plus.calls k t632 t633 t634 _ A13.out).mono ?_); rintro e w39 ⟨rfl, hb⟩; refine ⟨_, rfl, ?_⟩; have n0_ := kb_ BK619 hb; have n1_ := kb_ BK623 hb; have n2_ := kb_ BK626 hb; have n3_ := bs_ HB hb; clear BK619; clear BK623; clear BK626; clear HB; have BK619 := n0_; have BK623 := n1_; have BK626 := n2_; have HB := n3_; clear n0_ n1_ n2_ n3_; (try clear hb); (try clear hb2); (try clear hk); (try clear hi); have hcz40_0 : w39.cell? ⟨gb619, 0, none⟩ = some (.float .f64 0) := (blk_cell BK619.out 0).trans rfl; have hcz40_1 : w39.cell? ⟨gb619, 1, none⟩ = some (.float .f64 0) := (blk_cell BK619.out 1).trans rfl; have hfz40_0 := blk_frozen BK619.out 0; have hfz40_1 := blk_frozen BK619.out 1))
 refine bodyPost_ret (results_cell_row rfl _ _ gb619 30 #[.float .f64 t620, .float .f64 t634] (0, 0) _ rfl (by (with_reducible repeat (first | apply bN | apply bD | apply bA)); refine blk_put (cs := #[.float .f64 t620, .float .f64 0]) ?_ 1 _ rfl; (with_reducible repeat (first | apply bN | apply bD | apply bA)); refine blk_put (cs := #[.float .f64 0, .float .f64 0]) ?_ 0 _ rfl; exact bk_ BK619) Try.underlying30 rfl (by kernel_rfl)) rfl ?_
 exact ⟨by first | rfl | (simp [errW_none, errW_some] <;> rfl) | (simp [*, errW_none, errW_some] <;> rfl), bl_ HB⟩

/-! ### r05_Add: function 23 -/
def r05_Add.f (k : Nat) (a0_0 : Nat) (a0_1 : Nat) (a1_0 : Nat) (a1_1 : Nat) : Option (Nat × Nat) := (r05_Sum.f k a0_0 a1_0).bind fun bt638 => ((r05_Sum.f k a0_1 a1_1).bind fun bt641 => ((r05_Plus.f k bt638.2 bt641.1).bind fun t644 => ((r05_Quick.f k bt638.1 t644).bind fun bt645 => ((r05_Plus.f k bt641.2 bt645.2).bind fun t648 => ((r05_Quick.f k bt645.1 t648).bind fun bt649 => (some (bt649.1, bt649.2)))))))
theorem r05_Add.mono : ∀ a0 a1 a2 a3 k, LeO (r05_Add.f k a0 a1 a2 a3) (r05_Add.f (k + 1) a0 a1 a2 a3) := by
 intro a0 a1 a2 a3 k
 unfold r05_Add.f
 repeat' first
   | (with_reducible exact r05_Plus.mono _ _ _)
   | (with_reducible exact r05_Quick.mono _ _ _)
   | (with_reducible exact r05_Sum.mono _ _ _)
   | (with_reducible exact LeO.refl _)
   | (with_reducible exact LeO.none _)
   | (with_reducible refine LeO.ite ?_ ?_)
   | (with_reducible refine LeO.bind ?_ (fun _ => ?_))
   | exact r05_Plus.mono _ _ _
   | exact r05_Quick.mono _ _ _
   | exact r05_Sum.mono _ _ _
   | exact LeO.none _
   | refine LeO.ite ?_ ?_
   | refine LeO.bind ?_ (fun _ => ?_)
set_option maxHeartbeats 3000000 in
set_option maxRecDepth 100000 in
theorem r05_Add.calls (k : Nat) (a0_0 : Nat) (a0_1 : Nat) (a1_0 : Nat) (a1_1 : Nat) (r1 : Nat) (r2 : Nat) (w : World) (h : r05_Add.f k a0_0 a0_1 a1_0 a1_1 = some (r1, r2)) :
  Calls Try.prog 23 #[.agg #[.float .f64 a0_0, .float .f64 a0_1], .agg #[.float .f64 a1_0, .float .f64 a1_1]] w fun e w' => e = .returned (.agg #[.float .f64 r1, .float .f64 r2]) ∧ Below w.heap.size w w' := by
 have hu30 := Try.underlying30
 have HB := Aside0.mk (Below.refl w.heap.size w)
 have H : ((r05_Sum.f k a0_0 a1_0).bind fun bt638 => ((r05_Sum.f k a0_1 a1_1).bind fun bt641 => ((r05_Plus.f k bt638.2 bt641.1).bind fun t644 => ((r05_Quick.f k bt638.1 t644).bind fun bt645 => ((r05_Plus.f k bt641.2 bt645.2).bind fun t648 => ((r05_Quick.f k bt645.1 t648).bind fun bt649 => (some (bt649.1, bt649.2)))))))) = some (r1, r2) := h
 clear h
 obtain ⟨⟨t638, t639⟩, A3, H⟩ := ob_ H
 try dsimp only at H
 obtain ⟨⟨t641, t642⟩, A4, H⟩ := ob_ H
 try dsimp only at H
 obtain ⟨t644, A5, H⟩ := ob_ H
 try dsimp only at H
 obtain ⟨⟨t645, t646⟩, A6, H⟩ := ob_ H
 try dsimp only at H
 obtain ⟨t648, A7, H⟩ := ob_ H
 try dsimp only at H
 obtain ⟨⟨t649, t650⟩, A8, H⟩ := ob_ H
 try dsimp only at H
 simp only [Option.some.injEq, Prod.mk.injEq] at H
 obtain ⟨rfl, rfl⟩ := H
 go_enter Try.func23, Try.ntmps23
 go_wp2_with (first | ((with_reducible refine gate_dst (N := 2) rfl ?_); refine box_event ?hg (N := 2) ?hd (cs := #[.float .f64 a0_0, .float .f64 a0_1]) (t := 30) ?hr ?_; (case hd => rfl); (case hg => rfl); (case hr => first | (go_simp; done) | (go_simp; rfl)); intro gb635 hg w9 hbox hb; have n0_ := bs_ HB hb; have n1_ := Aside0.mk (hbox); have n2_ := ge_ HB hg; have n3_ := ge_ HB hg; clear HB; have HB := n0_; have BK635 := n1_; have GW635 := n2_; have GE635 := n3_; clear n0_ n1_ n2_ n3_; clear hb hbox hg) | ((with_reducible refine gate_dst (N := 3) rfl ?_); refine box_event ?hg (N := 3) ?hd (cs := #[.float .f64 a1_0, .float .f64 a1_1]) (t := 30) ?hr ?_; (case hd => rfl); (case hg => rfl); (case hr => first | (go_simp; done) | (go_simp; rfl)); intro gb636 hg w10 hbox hb; have n0_ := kb_ BK635 hb; have n1_ := bs_ HB hb; have n2_ := Aside0.mk (hbox); have n3_ := ge_ HB hg; have n4_ := ge_ HB hg; have n5_ := nlt_ BK635 hg; have n6_ := ngt_ BK635 hg; clear BK635; clear HB; have BK635 := n0_; have HB := n1_; have BK636 := n2_; have GW636 := n3_; have GE636 := n4_; have NB635_636 := n5_; have NB636_635 := n6_; clear n0_ n1_ n2_ n3_ n4_ n5_ n6_; clear hb hbox hg) | ((with_reducible refine gate_dst (N := 4) rfl ?_); refine box_event ?hg (N := 4) ?hd (cs := #[.float .f64 0, .float .f64 0]) (t := 30) ?hr ?_; (case hd => rfl); (case hg => rfl); (case hr => first | (go_simp; done) | (go_simp; rfl)); intro gb637 hg w11 hbox hb; have n0_ := kb_ BK635 hb; have n1_ := kb_ BK636 hb; have n2_ := bs_ HB hb; have n3_ := Aside0.mk (hbox); have n4_ := ge_ HB hg; have n5_ := ge_ HB hg; have n6_ := nlt_ BK635 hg; have n7_ := ngt_ BK635 hg; have n8_ := nlt_ BK636 hg; have n9_ := ngt_ BK636 hg; clear BK635; clear BK636; clear HB; have BK635 := n0_; have BK636 := n1_; have HB := n2_; have BK637 := n3_; have GW637 := n4_; have GE637 := n5_; have NB635_637 := n6_; have NB637_635 := n7_; have NB636_637 := n8_; have NB637_636 := n9_; clear n0_ n1_ n2_ n3_ n4_ n5_ n6_ n7_ n8_ n9_; clear hb hbox hg; have hnb12 := NB635_636.out; have hnc12 := NB636_635.out; have hnb13 := NB635_637.out; have hnc13 := NB637_635.out; have hcz14_0 : w11.cell? ⟨gb635, 0, none⟩ = some (.float .f64 a0_0) := (blk_cell BK635.out 0).trans rfl; have hcz14_1 : w11.cell? ⟨gb635, 1, none⟩ = some (.float .f64 a0_1) := (blk_cell BK635.out 1).trans rfl; have hfz14_0 := blk_frozen BK635.out 0; have hfz14_1 := blk_frozen BK635.out 1; have hnb15 := NB636_637.out; have hnc15 := NB637_636.out; have hcz16_0 : w11.cell? ⟨gb636, 0, none⟩ = some (.float .f64 a1_0) := (blk_cell BK636.out 0).trans rfl; have hcz16_1 : w11.cell? ⟨gb636, 1, none⟩ = some (.float .f64 a1_1) := (blk_cell BK636.out 1).trans rfl; have hfz16_0 := blk_frozen BK636.out 0; have hfz16_1 := blk_frozen BK636.out 1) | ((with_reducible refine gate_callee (f := 17) rfl ?_); refine goesM (some 14) Try.func17 #[.float .f64 a0_0, .float .f64 a1_0] ?_; (with_reducible refine (r05_Sum.calls k a0_0 a1_0 t638 t639 _ A3.out).mono ?_); rintro e w17 ⟨rfl, hb⟩; refine ⟨_, rfl, ?_⟩; have n0_ := kb_ BK635 hb; have n1_ := kb_ BK636 hb; have n2_ := kb_ BK637 hb; have n3_ := bs_ HB hb; clear BK635; clear BK636; clear BK637; clear HB; have BK635 := n0_; have BK636 := n1_; have BK637 := n2_; have HB := n3_; clear n0_ n1_ n2_ n3_; (try clear hb); (try clear hb2); (try clear hk); (try clear hi)) | ((with_reducible refine gate_dst (N := 5) rfl ?_); refine box_event ?hg (N := 5) ?hd (cs := #[.float .f64 0, .float .f64 0]) (t := 30) ?hr ?_; (case hd => rfl); (case hg => rfl); (case hr => first | (go_simp; done) | (go_simp; rfl)); intro gb640 hg w18 hbox hb; have n0_ := kb_ BK635 hb; have n1_ := kb_ BK636 hb; have n2_ := kb_ BK637 hb; have n3_ := bs_ HB hb; have n4_ := Aside0.mk (hbox); have n5_ := ge_ HB hg; have n6_ := ge_ HB hg; have n7_ := nlt_ BK635 hg; have n8_ := ngt_ BK635 hg; have n9_ := nlt_ BK636 hg; have n10_ := ngt_ BK636 hg; have n11_ := nlt_ BK637 hg; have n12_ := ngt_ BK637 hg; clear BK635; clear BK636; clear BK637; clear HB; have BK635 := n0_; have BK636 := n1_; have BK637 := n2_; have HB := n3_; have BK640 := n4_; have GW640 := n5_; have GE640 := n6_; have NB635_640 := n7_; have NB640_635 := n8_; have NB636_640 := n9_; have NB640_636 := n10_; have NB637_640 := n11_; have NB640_637 := n12_; clear n0_ n1_ n2_ n3_ n4_ n5_ n6_ n7_ n8_ n9_ n10_ n11_ n12_; clear hb hbox hg; have hnb19 := NB640_635.out; have hnc19 := NB635_640.out; have hnb20 := NB640_636.out; have hnc20 := NB636_640.out; have hnb21 := NB640_637.out; have hnc21 := NB637_640.out; have hcz22_0 : w18.cell? ⟨gb640, 0, none⟩ = some (.float .f64 0) := (blk_cell BK640.out 0).trans rfl; have hcz22_1 : w18.cell? ⟨gb640, 1, none⟩ = some (.float .f64 0) := (blk_cell BK640.out 1).trans rfl; have hfz22_0 := blk_frozen BK640.out 0; have hfz22_1 := blk_frozen BK640.out 1; have hcz23_0 : w18.cell? ⟨gb635, 0, none⟩ = some (.float .f64 a0_0) := (blk_cell BK635.out 0).trans rfl; have hcz23_1 : w18.cell? ⟨gb635, 1, none⟩ = some (.float .f64 a0_1) := (blk_cell BK635.out 1).trans rfl; have hfz23_0 := blk_frozen BK635.out 0; have hfz23_1 := blk_frozen BK635.out 1; have hcz24_0 : w18.cell? ⟨gb636, 0, none⟩ = some (.float .f64 a1_0) := (blk_cell BK636.out 0).trans rfl; have hcz24_1 : w18.cell? ⟨gb636, 1, none⟩ = some (.float .f64 a1_1) := (blk_cell BK636.out 1).trans rfl; have hfz24_0 := blk_frozen BK636.out 0; have hfz24_1 := blk_frozen BK636.out 1) | ((with_reducible refine gate_callee (f := 17) rfl ?_); refine goesM (some 19) Try.func17 #[.float .f64 a0_1, .float .f64 a1_1] ?_; (with_reducible refine (r05_Sum.calls k a0_1 a1_1 t641 t642 _ A4.out).mono ?_); rintro e w25 ⟨rfl, hb⟩; refine ⟨_, rfl, ?_⟩; have n0_ := Aside0.mk (blk_below (g := gb635) (o := .cells #[.float .f64 a0_0, .float .f64 a0_1] 30 (0, 0)) (by (with_reducible repeat (first | apply bN | apply bD | apply bA)); refine blk_far ?_ NB635_640.out _; (with_reducible repeat (first | apply bN | apply bD | apply bA)); refine blk_far ?_ NB635_640.out _; exact bk_ BK635) hb); have n1_ := Aside0.mk (blk_below (g := gb636) (o := .cells #[.float .f64 a1_0, .float .f64 a1_1] 30 (0, 0)) (by (with_reducible repeat (first | apply bN | apply bD | apply bA)); refine blk_far ?_ NB636_640.out _; (with_reducible repeat (first | apply bN | apply bD | apply bA)); refine blk_far ?_ NB636_640.out _; exact bk_ BK636) hb); have n2_ := Aside0.mk (blk_below (g := gb637) (o := .cells #[.float .f64 0, .float .f64 0] 30 (0, 0)) (by (with_reducible repeat (first | apply bN | apply bD | apply bA)); refine blk_far ?_ NB637_640.out _; (with_reducible repeat (first | apply bN | apply bD | apply bA)); refine blk_far ?_ NB637_640.out _; exact bk_ BK637) hb); have n3_ := Aside0.mk (blk_below (g := gb640) (o := .cells #[.float .f64 t638, .float .f64 t639] 30 (0, 0)) (by (with_reducible repeat (first | apply bN | apply bD | apply bA)); refine blk_put (cs := #[.float .f64 t638, .float .f64 0]) ?_ 1 _ rfl; (with_reducible repeat (first | apply bN | apply bD | apply bA)); refine blk_put (cs := #[.float .f64 0, .float .f64 0]) ?_ 0 _ rfl; exact bk_ BK640) hb); have n4_ := bs_ HB hb; clear BK635; clear BK636; clear BK637; clear BK640; clear HB; have BK635 := n0_; have BK636 := n1_; have BK637 := n2_; have BK640 := n3_; have HB := n4_; clear n0_ n1_ n2_ n3_ n4_; (try clear hb); (try clear hb2); (try clear hk); (try clear hi)) | ((with_reducible refine gate_dst (N := 6) rfl ?_); refine box_event ?hg (N := 6) ?hd (cs := #[.float .f64 0, .float .f64 0]) (t := 30) ?hr ?_; (case hd => rfl); (case hg => rfl); (case hr => first | (go_simp; done) | (go_simp; rfl)); intro gb643 hg w26 hbox hb; have n0_ := kb_ BK635 hb; have n1_ := kb_ BK636 hb; have n2_ := kb_ BK637 hb; have n3_ := kb_ BK640 hb; have n4_ := bs_ HB hb; have n5_ := Aside0.mk (hbox); have n6_ := ge_ HB hg; have n7_ := ge_ HB hg; have n8_ := nlt_ BK635 hg; have n9_ := ngt_ BK635 hg; have n10_ := nlt_ BK636 hg; have n11_ := ngt_ BK636 hg; have n12_ := nlt_ BK637 hg; have n13_ := ngt_ BK637 hg; have n14_ := nlt_ BK640 hg; have n15_ := ngt_ BK640 hg; clear BK635; clear BK636; clear BK637; clear BK640; clear HB; have BK635 := n0_; have BK636 := n1_; have BK637 := n2_; have BK640 := n3_; have HB := n4_; have BK643 := n5_; have GW643 := n6_; have GE643 := n7_; have NB635_643 := n8_; have NB643_635 := n9_; have NB636_643 := n10_; have NB643_636 := n11_; have NB637_643 := n12_; have NB643_637 := n13_; have NB640_643 := n14_; have NB643_640 := n15_; clear n0_ n1_ n2_ n3_ n4_ n5_ n6_ n7_ n8_ n9_ n10_ n11_ n12_ n13_ n14_ n15_; clear hb hbox hg; have hnb27 := NB643_635.out; have hnc27 := NB635_643.out; have hnb28 := NB643_636.out; have hnc28 := NB636_643.out; have hnb29 := NB643_637.out; have hnc29 := NB637_643.out; have hnb30 := NB643_640.out; have hnc30 := NB640_643.out; have hcz31_0 : w26.cell? ⟨gb643, 0, none⟩ = some (.float .f64 0) := (blk_cell BK643.out 0).trans rfl; have hcz31_1 : w26.cell? ⟨gb643, 1, none⟩ = some (.float .f64 0) := (blk_cell BK643.out 1).trans rfl; have hfz31_0 := blk_frozen BK643.out 0; have hfz31_1 := blk_frozen BK643.out 1; have hcz32_0 : w26.cell? ⟨gb640, 0, none⟩ = some (.float .f64 t638) := (blk_cell BK640.out 0).trans rfl; have hcz32_1 : w26.cell? ⟨gb640, 1, none⟩ = some (.float .f64 t639) := (blk_cell BK640.out 1).trans rfl; have hfz32_0 := blk_frozen BK640.out 0; have hfz32_1 := blk_frozen BK640.out 1) | ((with_reducible refine gate_callee (f := 43) rfl ?_); refine goesM (some 24) Try.func43 #[.float .f64 t639, .float .f64 t641] ?_; (with_reducible refine (r05_Plus.calls k t639 t641 t644 _ A5.out).mono ?_); rintro e w33 ⟨rfl, hb⟩; refine ⟨_, rfl, ?_⟩; have n0_ := Aside0.mk (blk_below (g := gb635) (o := .cells #[.float .f64 a0_0, .float .f64 a0_1] 30 (0, 0)) (by (with_reducible repeat (first | apply bN | apply bD | apply bA)); refine blk_far ?_ NB635_643.out _; (with_reducible repeat (first | apply bN | apply bD | apply bA)); refine blk_far ?_ NB635_643.out _; exact bk_ BK635) hb); have n1_ := Aside0.mk (blk_below (g := gb636) (o := .cells #[.float .f64 a1_0, .float .f64 a1_1] 30 (0, 0)) (by (with_reducible repeat (first | apply bN | apply bD | apply bA)); refine blk_far ?_ NB636_643.out _; (with_reducible repeat (first | apply bN | apply bD | apply bA)); refine blk_far ?_ NB636_643.out _; exact bk_ BK636) hb); have n2_ := Aside0.mk (blk_below (g := gb637) (o := .cells #[.float .f64 0, .float .f64 0] 30 (0, 0)) (by (with_reducible repeat (first | apply bN | apply bD | apply bA)); refine blk_far ?_ NB637_643.out _; (with_reducible repeat (first | apply bN | apply bD | apply bA)); refine blk_far ?_ NB637_643.out _; exact bk_ BK637) hb); have n3_ := Aside0.mk (blk_below (g := gb640) (o := .cells #[.float .f64 t638, .float .f64 t639] 30 (0, 0)) (by (with_reducible repeat (first | apply bN | apply bD | apply bA)); refine blk_far ?_ NB640_643.out _; (with_reducible repeat (first | apply bN | apply bD | apply bA)); refine blk_far ?_ NB640_643.out _; exact bk_ BK640) hb); have n4_ := Aside0.mk (blk_below (g := gb643) (o := .cells #[.float .f64 t641, .float .f64 t642] 30 (0, 0)) (by (with_reducible repeat (first | apply bN | apply bD | apply bA)); refine blk_put (cs := #[.float .f64 t641, .float .f64 0]) ?_ 1 _ rfl; (with_reducible repeat (first | apply bN | apply bD | apply bA)); refine blk_put (cs := #[.float .f64 0, .float .f64 0]) ?_ 0 _ rfl; exact bk_ BK643) hb); have n5_ := bs_ HB hb; clear BK635; clear BK636; clear BK637; clear BK640; clear BK643; clear HB; have BK635 := n0_; have BK636 := n1_; have BK637 := n2_; have BK640 := n3_; have BK643 := n4_; have HB := n5_; clear n0_ n1_ n2_ n3_ n4_ n5_; (try clear hb); (try clear hb2); (try clear hk); (try clear hi); have hcz34_0 : w33.cell? ⟨gb640, 0, none⟩ = some (.float .f64 t638) := (blk_cell BK640.out 0).trans rfl; have hcz34_1 : w33.cell? ⟨gb640, 1, none⟩ = some (.float .f64 t639) := (blk_cell BK640.out 1).trans rfl; have hfz34_0 := blk_frozen BK640.out 0; have hfz34_1 := blk_frozen BK640.out 1) | ((with_reducible refine gate_callee (f := 19) rfl ?_); refine goesM (some 28) Try.func19 #[.float .f64 t638, .float .f64 t644] ?_; (with_reducible refine (r05_Quick.calls k t638 t644 t645 t646 _ A6.out).mono ?_); rintro e w35 ⟨rfl, hb⟩; refine ⟨_, rfl, ?_⟩; have n0_ := kb_ BK635 hb; have n1_ := kb_ BK636 hb; have n2_ := kb_ BK637 hb; have n3_ := kb_ BK640 hb; have n4_ := kb_ BK643 hb; have n5_ := bs_ HB hb; clear BK635; clear BK636; clear BK637; clear BK640; clear BK643; clear HB; have BK635 := n0_; have BK636 := n1_; have BK637 := n2_; have BK640 := n3_; have BK643 := n4_; have HB := n5_; clear n0_ n1_ n2_ n3_ n4_ n5_; (try clear hb); (try clear hb2); (try clear hk); (try clear hi)) | ((with_reducible refine gate_dst (N := 8) rfl ?_); refine box_event ?hg (N := 8) ?hd (cs := #[.float .f64 0, .float .f64 0]) (t := 30) ?hr ?_; (case hd => rfl); (case hg => rfl); (case hr => first | (go_simp; done) | (go_simp; rfl)); intro gb647 hg w36 hbox hb; have n0_ := kb_ BK635 hb; have n1_ := kb_ BK636 hb; have n2_ := kb_ BK637 hb; have n3_ := kb_ BK640 hb; have n4_ := kb_ BK643 hb; have n5_ := bs_ HB hb; have n6_ := Aside0.mk (hbox); have n7_ := ge_ HB hg; have n8_ := ge_ HB hg; have n9_ := nlt_ BK635 hg; have n10_ := ngt_ BK635 hg; have n11_ := nlt_ BK636 hg; have n12_ := ngt_ BK636 hg; have n13_ := nlt_ BK637 hg; have n14_ := ngt_ BK637 hg; have n15_ := nlt_ BK640 hg; have n16_ := ngt_ BK640 hg; have n17_ := nlt_ BK643 hg; have n18_ := ngt_ BK643 hg; clear BK635; clear BK636; clear BK637; clear BK640; clear BK643; clear HB; have BK635 := n0_; have BK636 := n1_; have BK637 := n2_; have BK640 := n3_; have BK643 := n4_; have HB := n5_; have BK647 := n6_; have GW647 := n7_; have GE647 := n8_; have NB635_647 := n9_; have NB647_635 := n10_; have NB636_647 := n11_; have NB647_636 := n12_; have NB637_647 := n13_; have NB647_637 := n14_; have NB640_647 := n15_; have NB647_640 := n16_; have NB643_647 := n17_; have NB647_643 := n18_; clear n0_ n1_ n2_ n3_ n4_ n5_ n6_ n7_ n8_ n9_ n10_ n11_ n12_ n13_ n14_ n15_ n16_ n17_ n18_; clear hb hbox hg; have hnb37 := NB647_635.out; have hnc37 := NB635_647.out; have hnb38 := NB647_636.out; have hnc38 := NB636_647.out; have hnb39 := NB647_637.out; have hnc39 := NB637_647.out; have hnb40 := NB647_640.out; have hnc40 := NB640_647.out; have hnb41 := NB647_643.out; have hnc41 := NB643_647.out; have hcz42_0 : w36.cell? ⟨gb647, 0, none⟩ = some (.float .f64 0) := (blk_cell BK647.out 0).trans rfl; have hcz42_1 : w36.cell? ⟨gb647, 1, none⟩ = some (.float .f64 0) := (blk_cell BK647.out 1).trans rfl; have hfz42_0 := blk_frozen BK647.out 0; have hfz42_1 := blk_frozen BK647.out 1; have hcz43_0 : w36.cell? ⟨gb643, 0, none⟩ = some (.float .f64 t641) := (blk_cell BK643.out 0).trans rfl; have hcz43_1 : w36.cell? ⟨gb643, 1, none⟩ = some (.float .f64 t642) := (blk_cell BK643.out 1).trans rfl; have hfz43_0 := blk_frozen BK643.out 0; have hfz43_1 := blk_frozen BK643.out 1) | ((with_reducible refine gate_callee (f := 43) rfl ?_); refine goesM (some 33) Try.func43 #[.float .f64 t642, .float .f64 t646] ?_; (with_reducible refine (r05_Plus.calls k t642 t646 t648 _ A7.out).mono ?_); rintro e w44 ⟨rfl, hb⟩; refine ⟨_, rfl, ?_⟩; have n0_ := Aside0.mk (blk_below (g := gb635) (o := .cells #[.float .f64 a0_0, .float .f64 a0_1] 30 (0, 0)) (by (with_reducible repeat (first | apply bN | apply bD | apply bA)); refine blk_far ?_ NB635_647.out _; (with_reducible repeat (first | apply bN | apply bD | apply bA)); refine blk_far ?_ NB635_647.out _; exact bk_ BK635) hb); have n1_ := Aside0.mk (blk_below (g := gb636) (o := .cells #[.float .f64 a1_0, .float .f64 a1_1] 30 (0, 0)) (by (with_reducible repeat (first | apply bN | apply bD | apply bA)); refine blk_far ?_ NB636_647.out _; (with_reducible repeat (first | apply bN | apply bD | apply bA)); refine blk_far ?_ NB636_647.out _; exact bk_ BK636) hb); have n2_ := Aside0.mk (blk_below (g := gb637) (o := .cells #[.float .f64 0, .float .f64 0] 30 (0, 0)) (by (with_reducible repeat (first | apply bN | apply bD | apply bA)); refine blk_far ?_ NB637_647.out _; (with_reducible repeat (first | apply bN | apply bD | apply bA)); refine blk_far ?_ NB637_647.out _; exact bk_ BK637) hb); have n3_ := Aside0.mk (blk_below (g := gb640) (o := .cells #[.float .f64 t638, .float .f64 t639] 30 (0, 0)) (by (with_reducible repeat (first | apply bN | apply bD | apply bA)); refine blk_far ?_ NB640_647.out _; (with_reducible repeat (first | apply bN | apply bD | apply bA)); refine blk_far ?_ NB640_647.out _; exact bk_ BK640) hb); have n4_ := Aside0.mk (blk_below (g := gb643) (o := .cells #[.float .f64 t641, .float .f64 t642] 30 (0, 0)) (by (with_reducible repeat (first | apply bN | apply bD | apply bA)); refine blk_far ?_ NB643_647.out _; (with_reducible repeat (first | apply bN | apply bD | apply bA)); refine blk_far ?_ NB643_647.out _; exact bk_ BK643) hb); have n5_ := Aside0.mk (blk_below (g := gb647) (o := .cells #[.float .f64 t645, .float .f64 t646] 30 (0, 0)) (by (with_reducible repeat (first | apply bN | apply bD | apply bA)); refine blk_put (cs := #[.float .f64 t645, .float .f64 0]) ?_ 1 _ rfl; (with_reducible repeat (first | apply bN | apply bD | apply bA)); refine blk_put (cs := #[.float .f64 0, .float .f64 0]) ?_ 0 _ rfl; exact bk_ BK647) hb); have n6_ := bs_ HB hb; clear BK635; clear BK636; clear BK637; clear BK640; clear BK643; clear BK647; clear HB; have BK635 := n0_; have BK636 := n1_; have BK637 := n2_; have BK640 := n3_; have BK643 := n4_; have BK647 := n5_; have HB := n6_; clear n0_ n1_ n2_ n3_ n4_ n5_ n6_; (try clear hb); (try clear hb2); (try clear hk); (try clear hi); have hcz45_0 : w44.cell? ⟨gb647, 0, none⟩ = some (.float .f64 t645) := (blk_cell BK647.out 0).trans rfl; have hcz45_1 : w44.cell? ⟨gb647, 1, none⟩ = some (.float .f64 t646) := (blk_cell BK647.out 1).trans rfl; have hfz45_0 := blk_frozen BK647.out 0; have hfz45_1 := blk_frozen BK647.out 1) | ((with_reducible refine gate_callee (f := 19) rfl ?_); refine goesM (some 37) Try.func19 #[.float .f64 t645, .float .f64 t648] ?_; (with_reducible refine (r05_Quick.calls k t645 t648 t649 t650 _ A8.out).mono ?_); rintro e w46 ⟨rfl, hb⟩; refine ⟨_, rfl, ?_⟩; have n0_ := kb_ BK635 hb; have n1_ := kb_ BK636 hb; have n2_ := kb_ BK637 hb; have n3_ := kb_ BK640 hb; have n4_ := kb_ BK643 hb; have n5_ := kb_ BK647 hb; have n6_ := bs_ HB hb; clear BK635; clear BK636; clear BK637; clear BK640; clear BK643; clear BK647; clear HB; have BK635 := n0_; have BK636 := n1_; have BK637 := n2_; have BK640 := n3_; have BK643 := n4_; have BK647 := n5_; have HB := n6_; clear n0_ n1_ n2_ n3_ n4_ n5_ n6_; (try clear hb); (try clear hb2); (try clear hk); (try clear hi); have hcz47_0 : w46.cell? ⟨gb637, 0, none⟩ = some (.float .f64 0) := (blk_cell BK637.out 0).trans rfl; have hcz47_1 : w46.cell? ⟨gb637, 1, none⟩ = some (.float .f64 0) := (blk_cell BK637.out 1).trans rfl; have hfz47_0 := blk_frozen BK637.out 0; have hfz47_1 := blk_frozen BK637.out 1))
 refine bodyPost_ret (results_cell_row rfl _ _ gb637 30 #[.float .f64 t649, .float .f64 t650] (0, 0) _ rfl (by (with_reducible repeat (first | apply bN | apply bD | apply bA)); refine blk_put (cs := #[.float .f64 t649, .float .f64 0]) ?_ 1 _ rfl; (with_reducible repeat (first | apply bN | apply bD | apply bA)); refine blk_put (cs := #[.float .f64 0, .float .f64 0]) ?_ 0 _ rfl; exact bk_ BK637) Try.underlying30 rfl (by kernel_rfl)) rfl ?_
 exact ⟨by first | rfl | (simp [errW_none, errW_some] <;> rfl) | (simp [*, errW_none, errW_some] <;> rfl), bl_ HB⟩

/-! ### r05_Mul: function 25 -/
def r05_Mul.f (k : Nat) (a0_0 : Nat) (a0_1 : Nat) (a1_0 : Nat) (a1_1 : Nat) : Option (Nat × Nat) := (r05_Product.f k a0_0 a1_0).bind fun bt654 => ((r05_Times.f k a0_0 a1_1).bind fun t657 => ((r05_Times.f k a0_1 a1_0).bind fun t658 => ((r05_Plus.f k t657 t658).bind fun t659 => ((r05_Plus.f k bt654.2 t659).bind fun t660 => ((r05_Quick.f k bt654.1 t660).bind fun bt661 => (some (bt661.1, bt661.2)))))))
theorem r05_Mul.mono : ∀ a0 a1 a2 a3 k, LeO (r05_Mul.f k a0 a1 a2 a3) (r05_Mul.f (k + 1) a0 a1 a2 a3) := by
 intro a0 a1 a2 a3 k
 unfold r05_Mul.f
 repeat' first
   | (with_reducible exact r05_Plus.mono _ _ _)
   | (with_reducible exact r05_Product.mono _ _ _)
   | (with_reducible exact r05_Quick.mono _ _ _)
   | (with_reducible exact r05_Times.mono _ _ _)
   | (with_reducible exact LeO.refl _)
   | (with_reducible exact LeO.none _)
   | (with_reducible refine LeO.ite ?_ ?_)
   | (with_reducible refine LeO.bind ?_ (fun _ => ?_))
   | exact r05_Plus.mono _ _ _
   | exact r05_Product.mono _ _ _
   | exact r05_Quick.mono _ _ _
   | exact r05_Times.mono _ _ _
   | exact LeO.none _
   | refine LeO.ite ?_ ?_
   | refine LeO.bind ?_ (fun _ => ?_)
set_option maxHeartbeats 3000000 in
set_option maxRecDepth 100000 in
theorem r05_Mul.calls (k : Nat) (a0_0 : Nat) (a0_1 : Nat) (a1_0 : Nat) (a1_1 : Nat) (r1 : Nat) (r2 : Nat) (w : World) (h : r05_Mul.f k a0_0 a0_1 a1_0 a1_1 = some (r1, r2)) :
  Calls Try.prog 25 #[.agg #[.float .f64 a0_0, .float .f64 a0_1], .agg #[.float .f64 a1_0, .float .f64 a1_1]] w fun e w' => e = .returned (.agg #[.float .f64 r1, .float .f64 r2]) ∧ Below w.heap.size w w' := by
 have hu30 := Try.underlying30
 have HB := Aside0.mk (Below.refl w.heap.size w)
 have H : ((r05_Product.f k a0_0 a1_0).bind fun bt654 => ((r05_Times.f k a0_0 a1_1).bind fun t657 => ((r05_Times.f k a0_1 a1_0).bind fun t658 => ((r05_Plus.f k t657 t658).bind fun t659 => ((r05_Plus.f k bt654.2 t659).bind fun t660 => ((r05_Quick.f k bt654.1 t660).bind fun bt661 => (some (bt661.1, bt661.2)))))))) = some (r1, r2) := h
 clear h
 obtain ⟨⟨t654, t655⟩, A3, H⟩ := ob_ H
 try dsimp only at H
 obtain ⟨t657, A4, H⟩ := ob_ H
 try dsimp only at H
 obtain ⟨t658, A5, H⟩ := ob_ H
 try dsimp only at H
 obtain ⟨t659, A6, H⟩ := ob_ H
 try dsimp only at H
 obtain ⟨t660, A7, H⟩ := ob_ H
 try dsimp only at H
 obtain ⟨⟨t661, t662⟩, A8, H⟩ := ob_ H
 try dsimp only at H
 simp only [Option.some.injEq, Prod.mk.injEq] at H
 obtain ⟨rfl, rfl⟩ := H
 go_enter Try.func25, Try.ntmps25
 go_wp2_with (first | ((with_reducible refine gate_dst (N := 2) rfl ?_); refine box_event ?hg (N := 2) ?hd (cs := #[.float .f64 a0_0, .float .f64 a0_1]) (t := 30) ?hr ?_; (case hd => rfl); (case hg => rfl); (case hr => first | (go_simp; done) | (go_simp; rfl)); intro gb651 hg w9 hbox hb; have n0_ := bs_ HB hb; have n1_ := Aside0.mk (hbox); have n2_ := ge_ HB hg; have n3_ := ge_ HB hg; clear HB; have HB := n0_; have BK651 := n1_; have GW651 := n2_; have GE651 := n3_; clear n0_ n1_ n2_ n3_; clear hb hbox hg) | ((with_reducible refine gate_dst (N := 3) rfl ?_); refine box_event ?hg (N := 3) ?hd (cs := #[.float .f64 a1_0, .float .f64 a1_1]) (t := 30) ?hr ?_; (case hd => rfl); (case hg => rfl); (case hr => first | (go_simp; done) | (go_simp; rfl)); intro gb652 hg w10 hbox hb; have n0_ := kb_ BK651 hb; have n1_ := bs_ HB hb; have n2_ := Aside0.mk (hbox); have n3_ := ge_ HB hg; have n4_ := ge_ HB hg; have n5_ := nlt_ BK651 hg; have n6_ := ngt_ BK651 hg; clear BK651; clear HB; have BK651 := n0_; have HB := n1_; have BK652 := n2_; have GW652 := n3_; have GE652 := n4_; have NB651_652 := n5_; have NB652_651 := n6_; clear n0_ n1_ n2_ n3_ n4_ n5_ n6_; clear hb hbox hg) | ((with_reducible refine gate_dst (N := 4) rfl ?_); refine box_event ?hg (N := 4) ?hd (cs := #[.float .f64 0, .float .f64 0]) (t := 30) ?hr ?_; (case hd => rfl); (case hg => rfl); (case hr => first | (go_simp; done) | (go_simp; rfl)); intro gb653 hg w11 hbox hb; have n0_ := kb_ BK651 hb; have n1_ := kb_ BK652 hb; have n2_ := bs_ HB hb; have n3_ := Aside0.mk (hbox); have n4_ := ge_ HB hg; have n5_ := ge_ HB hg; have n6_ := nlt_ BK651 hg; have n7_ := ngt_ BK651 hg; have n8_ := nlt_ BK652 hg; have n9_ := ngt_ BK652 hg; clear BK651; clear BK652; clear HB; have BK651 := n0_; have BK652 := n1_; have HB := n2_; have BK653 := n3_; have GW653 := n4_; have GE653 := n5_; have NB651_653 := n6_; have NB653_651 := n7_; have NB652_653 := n8_; have NB653_652 := n9_; clear n0_ n1_ n2_ n3_ n4_ n5_ n6_ n7_ n8_ n9_; clear hb hbox hg; have hnb12 := NB651_652.out; have hnc12 := NB652_651.out; have hnb13 := NB651_653.out; have hnc13 := NB653_651.out; have hcz14_0 : w11.cell? ⟨gb651, 0, none⟩ = some (.float .f64 a0_0) := (blk_cell BK651.out 0).trans rfl; have hcz14_1 : w11.cell? ⟨gb651, 1, none⟩ = some (.float .f64 a0_1) := (blk_cell BK651.out 1).trans rfl; have hfz14_0 := blk_frozen BK651.out 0; have hfz14_1 := blk_frozen BK651.out 1; have hnb15 := NB652_653.out; have hnc15 := NB653_652.out; have hcz16_0 : w11.cell? ⟨gb652, 0, none⟩ = some (.float .f64 a1_0) := (blk_cell BK652.out 0).trans rfl; have hcz16_1 : w11.cell? ⟨gb652, 1, none⟩ = some (.float .f64 a1_1) := (blk_cell BK652.out 1).trans rfl; have hfz16_0 := blk_frozen BK652.out 0; have hfz16_1 := blk_frozen BK652.out 1) | ((with_reducible refine gate_callee (f := 21) rfl ?_); refine goesM (some 14) Try.func21 #[.float .f64 a0_0, .float .f64 a1_0] ?_; (with_reducible refine (r05_Product.calls k a0_0 a1_0 t654 t655 _ A3.out).mono ?_); rintro e w17 ⟨rfl, hb⟩; refine ⟨_, rfl, ?_⟩; have n0_ := kb_ BK651 hb; have n1_ := kb_ BK652 hb; have n2_ := kb_ BK653 hb; have n3_ := bs_ HB hb; clear BK651; clear BK652; clear BK653; clear HB; have BK651 := n0_; have BK652 := n1_; have BK653 := n2_; have HB := n3_; clear n0_ n1_ n2_ n3_; (try clear hb); (try clear hb2); (try clear hk); (try clear hi)) | ((with_reducible refine gate_dst (N := 5) rfl ?_); refine box_event ?hg (N := 5) ?hd (cs := #[.float .f64 0, .float .f64 0]) (t := 30) ?hr ?_; (case hd => rfl); (case hg => rfl); (case hr => first | (go_simp; done) | (go_simp; rfl)); intro gb656 hg w18 hbox hb; have n0_ := kb_ BK651 hb; have n1_ := kb_ BK652 hb; have n2_ := kb_ BK653 hb; have n3_ := bs_ HB hb; have n4_ := Aside0.mk (hbox); have n5_ := ge_ HB hg; have n6_ := ge_ HB hg; have n7_ := nlt_ BK651 hg; have n8_ := ngt_ BK651 hg; have n9_ := nlt_ BK652 hg; have n10_ := ngt_ BK652 hg; have n11_ := nlt_ BK653 hg; have n12_ := ngt_ BK653 hg; clear BK651; clear BK652; clear BK653; clear HB; have BK651 := n0_; have BK652 := n1_; have BK653 := n2_; have HB := n3_; have BK656 := n4_; have GW656 := n5_; have GE656 := n6_; have NB651_656 := n7_; have NB656_651 := n8_; have NB652_656 := n9_; have NB656_652 := n10_; have NB653_656 := n11_; have NB656_653 := n12_; clear n0_ n1_ n2_ n3_ n4_ n5_ n6_ n7_ n8_ n9_ n10_ n11_ n12_; clear hb hbox hg; have hnb19 := NB656_651.out; have hnc19 := NB651_656.out; have hnb20 := NB656_652.out; have hnc20 := NB652_656.out; have hnb21 := NB656_653.out; have hnc21 := NB653_656.out; have hcz22_0 : w18.cell? ⟨gb656, 0, none⟩ = some (.float .f64 0) := (blk_cell BK656.out 0).trans rfl; have hcz22_1 : w18.cell? ⟨gb656, 1, none⟩ = some (.float .f64 0) := (blk_cell BK656.out 1).trans rfl; have hfz22_0 := blk_frozen BK656.out 0; have hfz22_1 := blk_frozen BK656.out 1; have hcz23_0 : w18.cell? ⟨gb651, 0, none⟩ = some (.float .f64 a0_0) := (blk_cell BK651.out 0).trans rfl; have hcz23_1 : w18.cell? ⟨gb651, 1, none⟩ = some (.float .f64 a0_1) := (blk_cell BK651.out 1).trans rfl; have hfz23_0 := blk_frozen BK651.out 0; have hfz23_1 := blk_frozen BK651.out 1; have hcz24_0 : w18.cell? ⟨gb652, 0, none⟩ = some (.float .f64 a1_0) := (blk_cell BK652.out 0).trans rfl; have hcz24_1 : w18.cell? ⟨gb652, 1, none⟩ = some (.float .f64 a1_1) := (blk_cell BK652.out 1).trans rfl; have hfz24_0 := blk_frozen BK652.out 0; have hfz24_1 := blk_frozen BK652.out 1) | ((with_reducible refine gate_callee (f := 46) rfl ?_); refine goesM (some 19) Try.func46 #[.float .f64 a0_0, .float .f64 a1_1] ?_; (with_reducible refine (r05_Times.calls k a0_0 a1_1 t657 _ A4.out).mono ?_); rintro e w25 ⟨rfl, hb⟩; refine ⟨_, rfl, ?_⟩; have n0_ := Aside0.mk (blk_below (g := gb651) (o := .cells #[.float .f64 a0_0, .float .f64 a0_1] 30 (0, 0)) (by (with_reducible repeat (first | apply bN | apply bD | apply bA)); refine blk_far ?_ NB651_656.out _; (with_reducible repeat (first | apply bN | apply bD | apply bA)); refine blk_far ?_ NB651_656.out _; exact bk_ BK651) hb); have n1_ := Aside0.mk (blk_below (g := gb652) (o := .cells #[.float .f64 a1_0, .float .f64 a1_1] 30 (0, 0)) (by (with_reducible repeat (first | apply bN | apply bD | apply bA)); refine blk_far ?_ NB652_656.out _; (with_reducible repeat (first | apply bN | apply bD | apply bA)); refine blk_far ?_ NB652_656.out _; exact bk_ BK652) hb); have n2_ := Aside0.mk (blk_below (g := gb653) (o := .cells #[.float .f64 0, .float .f64 0] 30 (0, 0)) (by (with_reducible repeat (first | apply bN | apply bD | apply bA)); refine blk_far ?_ NB653_656.out _; (with_reducible repeat (first | apply bN | apply bD | apply bA)); refine blk_far ?_ NB653_656.out _; exact bk_ BK653) hb); have n3_ := Aside0.mk (blk_below (g := gb656) (o := .cells #[.float .f64 t654, .float .f64 t655] 30 (0, 0)) (by (with_reducible repeat (first | apply bN | apply bD | apply bA)); refine blk_put (cs := #[.float .f64 t654, .float .f64 0]) ?_ 1 _ rfl; (with_reducible repeat (first | apply bN | apply bD | apply bA)); refine blk_put (cs := #[.float .f64 0, .float .f64 0]) ?_ 0 _ rfl; exact bk_ BK656) hb); have n4_ := bs_ HB hb; clear BK651; clear BK652; clear BK653; clear BK656; clear HB; have BK651 := n0_; have BK652 := n1_; have BK653 := n2_; have BK656 := n3_; have HB := n4_; clear n0_ n1_ n2_ n3_ n4_; (try clear hb); (try clear hb2); (try clear hk); (try clear hi); have hcz26_0 : w25.cell? ⟨gb651, 0, none⟩ = some (.float .f64 a0_0) := (blk_cell BK651.out 0).trans rfl; have hcz26_1 : w25.cell? ⟨gb651, 1, none⟩ = some (.float .f64 a0_1) := (blk_cell BK651.out 1).trans rfl; have hfz26_0 := blk_frozen BK651.out 0; have hfz26_1 := blk_frozen BK651.out 1; have hcz27_0 : w25.cell? ⟨gb652, 0, none⟩ = some (.float .f64 a1_0) := (blk_cell BK652.out 0).trans rfl; have hcz27_1 : w25.cell? ⟨gb652, 1, none⟩ = some (.float .f64 a1_1) := (blk_cell BK652.out 1).trans rfl; have hfz27_0 := blk_frozen BK652.out 0; have hfz27_1 := blk_frozen BK652.out 1) | ((with_reducible refine gate_callee (f := 46) rfl ?_); refine goesM (some 24) Try.func46 #[.float .f64 a0_1, .float .f64 a1_0] ?_; (with_reducible refine (r05_Times.calls k a0_1 a1_0 t658 _ A5.out).mono ?_); rintro e w28 ⟨rfl, hb⟩; refine ⟨_, rfl, ?_⟩; have n0_ := kb_ BK651 hb; have n1_ := kb_ BK652 hb; have n2_ := kb_ BK653 hb; have n3_ := kb_ BK656 hb; have n4_ := bs_ HB hb; clear BK651; clear BK652; clear BK653; clear BK656; clear HB; have BK651 := n0_; have BK652 := n1_; have BK653 := n2_; have BK656 := n3_; have HB := n4_; clear n0_ n1_ n2_ n3_ n4_; (try clear hb); (try clear hb2); (try clear hk); (try clear hi)) | ((with_reducible refine gate_callee (f := 43) rfl ?_); refine goesM (some 27) Try.func43 #[.float .f64 t657, .float .f64 t658] ?_; (with_reducible refine (r05_Plus.calls k t657 t658 t659 _ A6.out).mono ?_); rintro e w29 ⟨rfl, hb⟩; refine ⟨_, rfl, ?_⟩; have n0_ := kb_ BK651 hb; have n1_ := kb_ BK652 hb; have n2_ := kb_ BK653 hb; have n3_ := kb_ BK656 hb; have n4_ := bs_ HB hb; clear BK651; clear BK652; clear BK653; clear BK656; clear HB; have BK651 := n0_; have BK652 := n1_; have BK653 := n2_; have BK656 := n3_; have HB := n4_; clear n0_ n1_ n2_ n3_ n4_; (try clear hb); (try clear hb2); (try clear hk); (try clear hi); have hcz30_0 : w29.cell? ⟨gb656, 0, none⟩ = some (.float .f64 t654) := (blk_cell BK656.out 0).trans rfl; have hcz30_1 : w29.cell? ⟨gb656, 1, none⟩ = some (.float .f64 t655) := (blk_cell BK656.out 1).trans rfl; have hfz30_0 := blk_frozen BK656.out 0; have hfz30_1 := blk_frozen BK656.out 1) | ((with_reducible refine gate_callee (f := 43) rfl ?_); refine goesM (some 31) Try.func43 #[.float .f64 t655, .float .f64 t659] ?_; (with_reducible refine (r05_Plus.calls k t655 t659 t660 _ A7.out).mono ?_); rintro e w31 ⟨rfl, hb⟩; refine ⟨_, rfl, ?_⟩; have n0_ := kb_ BK651 hb; have n1_ := kb_ BK652 hb; have n2_ := kb_ BK653 hb; have n3_ := kb_ BK656 hb; have n4_ := bs_ HB hb; clear BK651; clear BK652; clear BK653; clear BK656; clear HB; have BK651 := n0_; have BK652 := n1_; have BK653 := n2_; have BK656 := n3_; have HB := n4_; clear n0_ n1_ n2_ n3_ n4_; (try clear hb); (try clear hb2); (try clear hk); (try clear hi); have hcz32_0 : w31.cell? ⟨gb656, 0, none⟩ = some (.float .f64 t654) := (blk_cell BK656.out 0).trans rfl; have hcz32_1 : w31.cell? ⟨gb656, 1, none⟩ = some (.float .f64 t655) := (blk_cell BK656.out 1).trans rfl; have hfz32_0 := blk_frozen BK656.out 0; have hfz32_1 := blk_frozen BK656.out 1) | ((with_reducible refine gate_callee (f := 19) rfl ?_); refine goesM (some 35) Try.func19 #[.float .f64 t654, .float .f64 t660] ?_; (with_reducible refine (r05_Quick.calls k t654 t660 t661 t662 _ A8.out).mono ?_); rintro e w33 ⟨rfl, hb⟩; refine ⟨_, rfl, ?_⟩; have n0_ := kb_ BK651 hb; have n1_ := kb_ BK652 hb; have n2_ := kb_ BK653 hb; have n3_ := kb_ BK656 hb; have n4_ := bs_ HB hb; clear BK651; clear BK652; clear BK653; clear BK656; clear HB; have BK651 := n0_; have BK652 := n1_; have BK653 := n2_; have BK656 := n3_; have HB := n4_; clear n0_ n1_ n2_ n3_ n4_; (try clear hb); (try clear hb2); (try clear hk); (try clear hi); have hcz34_0 : w33.cell? ⟨gb653, 0, none⟩ = some (.float .f64 0) := (blk_cell BK653.out 0).trans rfl; have hcz34_1 : w33.cell? ⟨gb653, 1, none⟩ = some (.float .f64 0) := (blk_cell BK653.out 1).trans rfl; have hfz34_0 := blk_frozen BK653.out 0; have hfz34_1 := blk_frozen BK653.out 1))
 refine bodyPost_ret (results_cell_row rfl _ _ gb653 30 #[.float .f64 t661, .float .f64 t662] (0, 0) _ rfl (by (with_reducible repeat (first | apply bN | apply bD | apply bA)); refine blk_put (cs := #[.float .f64 t661, .float .f64 0]) ?_ 1 _ rfl; (with_reducible repeat (first | apply bN | apply bD | apply bA)); refine blk_put (cs := #[.float .f64 0, .float .f64 0]) ?_ 0 _ rfl; exact bk_ BK653) Try.underlying30 rfl (by kernel_rfl)) rfl ?_
 exact ⟨by first | rfl | (simp [errW_none, errW_some] <;> rfl) | (simp [*, errW_none, errW_some] <;> rfl), bl_ HB⟩

/-! ### r05_Value: function 28 -/
def r05_Value.f (k : Nat) (a0_0 : Nat) (a0_1 : Nat) : Option (Nat) := (r05_Plus.f k a0_0 a0_1).bind fun t664 => (some t664)
theorem r05_Value.mono : ∀ a0 a1 k, LeO (r05_Value.f k a0 a1) (r05_Value.f (k + 1) a0 a1) := by
 intro a0 a1 k
 unfold r05_Value.f
 repeat' first
   | (with_reducible exact r05_Plus.mono _ _ _)
   | (with_reducible exact LeO.refl _)
   | (with_reducible exact LeO.none _)
   | (with_reducible refine LeO.ite ?_ ?_)
   | (with_reducible refine LeO.bind ?_ (fun _ => ?_))
   | exact r05_Plus.mono _ _ _
   | exact LeO.none _
   | refine LeO.ite ?_ ?_
   | refine LeO.bind ?_ (fun _ => ?_)
set_option maxHeartbeats 3000000 in
set_option maxRecDepth 100000 in
theorem r05_Value.calls (k : Nat) (a0_0 : Nat) (a0_1 : Nat) (r : Nat) (w : World) (h : r05_Value.f k a0_0 a0_1 = some r) :
  Calls Try.prog 28 #[.agg #[.float .f64 a0_0, .float .f64 a0_1]] w fun e w' => e = .returned (.float .f64 r) ∧ Below w.heap.size w w' := by
 have hu30 := Try.underlying30
 have HB := Aside0.mk (Below.refl w.heap.size w)
 have H : ((r05_Plus.f k a0_0 a0_1).bind fun t664 => (some t664)) = some r := h
 clear h
 obtain ⟨t664, A2, H⟩ := ob_ H
 try dsimp only at H
 obtain rfl := Option.some.inj H
 go_enter Try.func28, Try.ntmps28
 go_wp2_with (first | ((with_reducible refine gate_dst (N := 1) rfl ?_); refine box_event ?hg (N := 1) ?hd (cs := #[.float .f64 a0_0, .float .f64 a0_1]) (t := 30) ?hr ?_; (case hd => rfl); (case hg => rfl); (case hr => first | (go_simp; done) | (go_simp; rfl)); intro gb663 hg w3 hbox hb; have n0_ := bs_ HB hb; have n1_ := Aside0.mk (hbox); have n2_ := ge_ HB hg; have n3_ := ge_ HB hg; clear HB; have HB := n0_; have BK663 := n1_; have GW663 := n2_; have GE663 := n3_; clear n0_ n1_ n2_ n3_; clear hb hbox hg; have hcz4_0 : w3.cell? ⟨gb663, 0, none⟩ = some (.float .f64 a0_0) := (blk_cell BK663.out 0).trans rfl; have hcz4_1 : w3.cell? ⟨gb663, 1, none⟩ = some (.float .f64 a0_1) := (blk_cell BK663.out 1).trans rfl; have hfz4_0 := blk_frozen BK663.out 0; have hfz4_1 := blk_frozen BK663.out 1) | ((with_reducible refine gate_callee (f := 43) rfl ?_); refine goesM (some 7) Try.func43 #[.float .f64 a0_0, .float .f64 a0_1] ?_; (with_reducible refine (r05_Plus.calls k a0_0 a0_1 t664 _ A2.out).mono ?_); rintro e w5 ⟨rfl, hb⟩; refine ⟨_, rfl, ?_⟩; have n0_ := kb_ BK663 hb; have n1_ := bs_ HB hb; clear BK663; clear HB; have BK663 := n0_; have HB := n1_; clear n0_ n1_; (try clear hb); (try clear hb2); (try clear hk); (try clear hi)))
 go_ret
 exact ⟨by first | rfl | (simp [errW_none, errW_some] <;> rfl) | (simp [*, errW_none, errW_some] <;> rfl), bl_ HB⟩

end Go.Proofs.Ytdemanikmaafeaa.Pr
-- written by this session's own program (wip/fprint.py), which widens the kit's print by floats
namespace Go.Proofs.Ytdemanikmaafeaa.Pr
open Go.RowKit Go.Proofs.YtdemanikmaafeaaW.PrintWords Go.Proofs.YtdemanikmaafeaaW.PrintLast Go.Proofs.YtdemanikmaafeaaW.PrintMore
attribute [local go_sem] max2_int min2_int max_two min_two max_three min_three max_four min_four   -- for this text's walks alone
set_option linter.unusedVariables false
set_option linter.unusedSimpArgs false

/-! ### l05_PairSteps: function 4 -/
def l05_PairSteps.l0 : Nat → Nat → Nat → Nat → Nat → Bool → List Nat → List Nat → Int → Option (Bool)
 | 0, _, _, _, _, _, _, _, _ => none
 | k + 1, x0, x1, x2, x3, x9, x10, x11, x12 => if x12 < (x10.length : Int) then (if 0 ≤ x12 then (if x12 < (x11.length : Int) then ((pair_Sum.f (rdOf (0 : Nat) x10 x12) (rdOf (0 : Nat) x11 x12)).bind fun bt674 => ((r05_Sum.f k (rdOf (0 : Nat) x10 x12) (rdOf (0 : Nat) x11 x12)).bind fun bt676 => ((r05_SamePair.f bt674.1 bt674.2 bt676.1 bt676.2).bind fun t678 => ((pair_Quick.f (rdOf (0 : Nat) x10 x12) (rdOf (0 : Nat) x11 x12)).bind fun bt679 => ((r05_Quick.f k (rdOf (0 : Nat) x10 x12) (rdOf (0 : Nat) x11 x12)).bind fun bt681 => ((r05_SamePair.f bt679.1 bt679.2 bt681.1 bt681.2).bind fun t683 => ((pair_Halves.f (rdOf (0 : Nat) x10 x12)).bind fun bt684 => ((r05_Halves.f k (rdOf (0 : Nat) x10 x12)).bind fun bt686 => ((r05_SamePair.f bt684.1 bt684.2 bt686.1 bt686.2).bind fun t688 => ((pair_Product.f (rdOf (0 : Nat) x10 x12) (rdOf (0 : Nat) x11 x12)).bind fun bt689 => ((r05_Product.f k (rdOf (0 : Nat) x10 x12) (rdOf (0 : Nat) x11 x12)).bind fun bt691 => ((r05_SamePair.f bt689.1 bt689.2 bt691.1 bt691.2).bind fun t693 => (if t678 = true then (if t683 = true then (if t688 = true then (if t693 = true then (l05_PairSteps.l0 k x0 x1 x2 x3 x9 x10 x11 (wrap64 (x12 + 1))) else (none)) else (none)) else (none)) else (none)))))))))))))) else (none)) else (none)) else ((pair_Add.f x0 x1 x2 x3).bind fun bt696 => ((r05_Add.f k x0 x1 x2 x3).bind fun bt698 => ((r05_SamePair.f bt696.1 bt696.2 bt698.1 bt698.2).bind fun t700 => ((pair_Mul.f x0 x1 x2 x3).bind fun bt701 => ((r05_Mul.f k x0 x1 x2 x3).bind fun bt703 => ((r05_SamePair.f bt701.1 bt701.2 bt703.1 bt703.2).bind fun t705 => ((pair_Value.f x0 x1).bind fun t706 => ((r05_Value.f k x0 x1).bind fun t707 => ((r05_Same.f t706 t707).bind fun t708 => (if x9 = true then (if t700 = true then (if t705 = true then (some t708) else (none)) else (none)) else (none)))))))))))
def l05_PairSteps.f (k : Nat) (a0 : Nat) (a1 : Nat) (a2 : Nat) (a3 : Nat) : Option (Bool) := (l05_awake.f).bind fun t665 => (l05_PairSteps.l0 k a0 a1 a2 a3 t665 (([a0, a1, a2, a0] : List Nat)) (([a1, a0, a3, a0] : List Nat)) 0)
theorem l05_PairSteps.mono_l : ∀ k, (∀ y0 y1 y2 y3 y4 y5 y6 y7, LeO (l05_PairSteps.l0 k y0 y1 y2 y3 y4 y5 y6 y7) (l05_PairSteps.l0 (k + 1) y0 y1 y2 y3 y4 y5 y6 y7))
 | 0 => fun _ _ _ _ _ _ _ _ r h => by simp [l05_PairSteps.l0] at h
 | k + 1 => by
  have ih0 := l05_PairSteps.mono_l k
  ·intro y0 y1 y2 y3 y4 y5 y6 y7
   unfold l05_PairSteps.l0
   repeat' first
   | (with_reducible exact ih0 _ _ _ _ _ _ _ _)
   | (with_reducible exact r05_Add.mono _ _ _ _ _)
   | (with_reducible exact r05_Halves.mono _ _)
   | (with_reducible exact r05_Mul.mono _ _ _ _ _)
   | (with_reducible exact r05_Product.mono _ _ _)
   | (with_reducible exact r05_Quick.mono _ _ _)
   | (with_reducible exact r05_Sum.mono _ _ _)
   | (with_reducible exact r05_Value.mono _ _ _)
   | (with_reducible exact LeO.refl _)
   | (with_reducible exact LeO.none _)
   | (with_reducible refine LeO.ite ?_ ?_)
   | (with_reducible refine LeO.bind ?_ (fun _ => ?_))
   | exact ih0 _ _ _ _ _ _ _ _
   | exact r05_Add.mono _ _ _ _ _
   | exact r05_Halves.mono _ _
   | exact r05_Mul.mono _ _ _ _ _
   | exact r05_Product.mono _ _ _
   | exact r05_Quick.mono _ _ _
   | exact r05_Sum.mono _ _ _
   | exact r05_Value.mono _ _ _
   | exact LeO.none _
   | refine LeO.ite ?_ ?_
   | refine LeO.bind ?_ (fun _ => ?_)
theorem l05_PairSteps.mono : ∀ a0 a1 a2 a3 k, LeO (l05_PairSteps.f k a0 a1 a2 a3) (l05_PairSteps.f (k + 1) a0 a1 a2 a3) := by
 intro a0 a1 a2 a3 k
 have ih0 := l05_PairSteps.mono_l k
 unfold l05_PairSteps.f
 repeat' first
   | (with_reducible exact ih0 _ _ _ _ _ _ _ _)
   | (with_reducible exact r05_Add.mono _ _ _ _ _)
   | (with_reducible exact r05_Halves.mono _ _)
   | (with_reducible exact r05_Mul.mono _ _ _ _ _)
   | (with_reducible exact r05_Product.mono _ _ _)
   | (with_reducible exact r05_Quick.mono _ _ _)
   | (with_reducible exact r05_Sum.mono _ _ _)
   | (with_reducible exact r05_Value.mono _ _ _)
   | (with_reducible exact LeO.refl _)
   | (with_reducible exact LeO.none _)
   | (with_reducible refine LeO.ite ?_ ?_)
   | (with_reducible refine LeO.bind ?_ (fun _ => ?_))
   | exact ih0 _ _ _ _ _ _ _ _
   | exact r05_Add.mono _ _ _ _ _
   | exact r05_Halves.mono _ _
   | exact r05_Mul.mono _ _ _ _ _
   | exact r05_Product.mono _ _ _
   | exact r05_Quick.mono _ _ _
   | exact r05_Sum.mono _ _ _
   | exact r05_Value.mono _ _ _
   | exact LeO.none _
   | refine LeO.ite ?_ ?_
   | refine LeO.bind ?_ (fun _ => ?_)
def l05_PairSteps.T17 : Bool × List (List Nat × List Nat) := (true, [([], []), ([], []), ([0, 1], [0, 1]), ([], []), ([], []), ([3, 4, 2], [3, 4]), ([2, 5, 5], [2, 5]), ([6, 6, 0, 1, 2, 3, 4, 5, 6], [6])])
def l05_PairSteps.B17 : List Nat := [0, 0, 3, 0, 0, 31, 63, 127]
theorem l05_PairSteps.tab17 : rtab .any (opsOf Try.f4 17) = l05_PairSteps.T17 := by kernel_rfl
theorem l05_PairSteps.bits17 : waitsOk l05_PairSteps.T17.2 l05_PairSteps.B17 = true := by kernel_rfl
def l05_PairSteps.T18 : Bool × List (List Nat × List Nat) := (true, [([], []), ([], []), ([0, 1], [0, 1]), ([], []), ([], []), ([3, 4, 2], [3, 4]), ([2, 5, 5], [2, 5]), ([6, 6, 0, 1, 2, 3, 4, 5, 6], [6])])
def l05_PairSteps.B18 : List Nat := [0, 0, 3, 0, 0, 31, 63, 127]
theorem l05_PairSteps.tab18 : rtab .any (opsOf Try.f4 18) = l05_PairSteps.T18 := by kernel_rfl
theorem l05_PairSteps.bits18 : waitsOk l05_PairSteps.T18.2 l05_PairSteps.B18 = true := by kernel_rfl
set_option maxHeartbeats 3000000 in
set_option maxRecDepth 100000 in
theorem l05_PairSteps.calls (k : Nat) (a0 : Nat) (a1 : Nat) (a2 : Nat) (a3 : Nat) (r : Bool) (w : World) (h : l05_PairSteps.f k a0 a1 a2 a3 = some r) :
  Calls Try.prog 4 #[.float .f64 a0, .float .f64 a1, .float .f64 a2, .float .f64 a3] w fun e w' => e = .returned (.bool r) ∧ Below w.heap.size w w' := by
 have hu30 := Try.underlying30
 have HB := Aside0.mk (Below.refl w.heap.size w)
 have H : ((l05_awake.f).bind fun t665 => (l05_PairSteps.l0 k a0 a1 a2 a3 t665 (([a0, a1, a2, a0] : List Nat)) (([a1, a0, a3, a0] : List Nat)) 0)) = some r := h
 clear h
 obtain ⟨t665, A5, H⟩ := ob_ H
 try dsimp only at H
 obtain ⟨y666, hy666⟩ : ∃ y_ : List Nat, y_ = (([a0, a1, a2, a0] : List Nat)) := ⟨_, rfl⟩
 replace H : (l05_PairSteps.l0 k a0 a1 a2 a3 t665 y666 (([a1, a0, a3, a0] : List Nat)) 0) = some r := by first | (rw [hy666]; with_reducible exact H) | (have H2_ := (Option.bind_some _ _).symm.trans H; rw [hy666]; with_reducible exact H2_) | (have H2_ := (Option.bind_some _ _).symm.trans H; with_reducible exact H2_) | with_reducible exact H | (rw [hy666]; exact H) | exact H
 have Ny666 := Aside0.mk hy666
 clear hy666
 obtain ⟨y669, hy669⟩ : ∃ y_ : List Nat, y_ = (([a1, a0, a3, a0] : List Nat)) := ⟨_, rfl⟩
 replace H : (l05_PairSteps.l0 k a0 a1 a2 a3 t665 y666 y669 0) = some r := by first | (rw [hy669]; with_reducible exact H) | (have H2_ := (Option.bind_some _ _).symm.trans H; rw [hy669]; with_reducible exact H2_) | (have H2_ := (Option.bind_some _ _).symm.trans H; with_reducible exact H2_) | with_reducible exact H | (rw [hy669]; exact H) | exact H
 have Ny669 := Aside0.mk hy669
 clear hy669
 have H' := Aside0.mk H
 clear H
 go_enter Try.func4, Try.ntmps4
 go_wp2_with (first | ((with_reducible refine gate_callee (f := 7) rfl ?_); refine goesM (some 24) Try.func7 #[] ?_; (with_reducible refine (l05_awake.calls  t665 _ A5.out).mono ?_); rintro e w6 ⟨rfl, hb⟩; refine ⟨_, rfl, ?_⟩; have n0_ := bs_ HB hb; clear HB; have HB := n0_; clear n0_; (try clear hb); (try clear hb2); (try clear hk); (try clear hi)) | ((with_reducible refine gate_dst (N := 29) rfl ?_); refine Kd.R_lit (Kd.float .f64) _ 23 ?hg (N := 29) ?hd (xs := ([a0, a1, a2, a0] : List Nat)) (inner := [.float .f64 a0, .float .f64 a1, .float .f64 a2, .float .f64 a0]) (ok := fun _ => True) (okp := fun _ => True) ?hr ?hp (fun _ hk => hk) trivial (Below.refl _ _) (Nat.le_refl _) (by simp) ?_; (case hd => rfl); (case hg => rfl); (case hr => first | (go_simp; done) | (go_simp; rfl)); (case hp => exact (Reps.one (show Kd.M (Kd.float .f64) _ _ _ a0 [.float .f64 a0] from rfl) (Reps.one (show Kd.M (Kd.float .f64) _ _ _ a1 [.float .f64 a1] from rfl) (Reps.one (show Kd.M (Kd.float .f64) _ _ _ a2 [.float .f64 a2] from rfl) (Reps.one (show Kd.M (Kd.float .f64) _ _ _ a0 [.float .f64 a0] from rfl) (Reps.none _ _)))))); intro v667 w7 ho8 hb hg_ hnew_; clear hg_ hnew_; (first | rw [← Ny666.out] at ho8 | (simp only [Int.reduceToNat] at ho8; rw [← Ny666.out] at ho8)); have n0_ := Aside0.mk (Kd.R_lower ho8 (below_size (bl_ HB))); have n1_ := bs_ HB hb; clear HB; have HO668 := n0_; have HB := n1_; clear n0_ n1_; clear hb ho8) | ((with_reducible refine gate_dst (N := 34) rfl ?_); refine Kd.R_lit (Kd.float .f64) _ 23 ?hg (N := 34) ?hd (xs := ([a1, a0, a3, a0] : List Nat)) (inner := [.float .f64 a1, .float .f64 a0, .float .f64 a3, .float .f64 a0]) (ok := fun _ => True) (okp := fun _ => True) ?hr ?hp (fun _ hk => hk) trivial (Below.refl _ _) (Nat.le_refl _) (by simp) ?_; (case hd => rfl); (case hg => rfl); (case hr => first | (go_simp; done) | (go_simp; rfl)); (case hp => exact (Reps.one (show Kd.M (Kd.float .f64) _ _ _ a1 [.float .f64 a1] from rfl) (Reps.one (show Kd.M (Kd.float .f64) _ _ _ a0 [.float .f64 a0] from rfl) (Reps.one (show Kd.M (Kd.float .f64) _ _ _ a3 [.float .f64 a3] from rfl) (Reps.one (show Kd.M (Kd.float .f64) _ _ _ a0 [.float .f64 a0] from rfl) (Reps.none _ _)))))); intro v670 w9 ho10 hb hg_ hnew_; clear hg_ hnew_; (first | rw [← Ny669.out] at ho10 | (simp only [Int.reduceToNat] at ho10; rw [← Ny669.out] at ho10)); have n0_ := Aside0.mk (Kd.R_elder' (rr_ HO668) (Kd.R_base ho10) hb); have n1_ := Aside0.mk (Kd.R_lower (Kd.R_new' ho10 (Kd.R_lt (rr_ HO668))) (below_size (bl_ HB))); have n2_ := bs_ HB hb; clear HO668; clear HB; have HO668 := n0_; have HO671 := n1_; have HB := n2_; clear n0_ n1_ n2_; clear hb ho10))
 go_loopg [12] k (fun kq v12 w' => ∃ (x12_1 : Int), v12 = .int .i64 x12_1 ∧ Aside0 (l05_PairSteps.l0 kq a0 a1 a2 a3 t665 y666 y669 x12_1 = some r) ∧ Aside0 (kq ≤ k) ∧ Aside0 (Kd.R (Kd.float .f64) 23 w' w.heap.size (fun k_ => some k_ ≠ (v670 : Value).ownBlock) v667 y666) ∧ Aside0 (Kd.R (Kd.float .f64) 23 w' w.heap.size (fun k_ => some k_ ≠ (v667 : Value).ownBlock) v670 y669) ∧ Aside0 (Below w.heap.size w w'))
 case atStart => exact ⟨(0), (by first | rfl | (simp; done) | (simp [*]; done)), H', ⟨Nat.le_refl _⟩, ⟨by (with_reducible repeat (first | apply rA | apply rN | apply rD)); exact Kd.R_mono HO668.out (fun _ hk => hk.2)⟩, ⟨by (with_reducible repeat (first | apply rA | apply rN | apply rD)); exact Kd.R_mono HO671.out (fun _ hk => hk.2)⟩, ⟨bl_ HB⟩⟩
 case round =>
  clear H'
  try clear p2
  try clear c4
  try clear c7
  obtain ⟨x12_1, rfl, HA, HK1, HO_10, HO_11, HB⟩ := hrel
  cases gk with
  | zero => exact absurd HA.out (by simp [l05_PairSteps.l0])
  | succ k1 =>
   have H := HA.out
   clear HA
   simp only [l05_PairSteps.l0] at H
   by_cases c11 : x12_1 < (y666.length : Int)
   ·rw [if_pos c11] at H
    have c11b0 : decide (x12_1 < (y666.length : Int)) = true := decide_eq_true c11
    clear c11
    by_cases c12 : 0 ≤ x12_1
    ·rw [if_pos c12] at H
     have c12b0 : decide (0 ≤ x12_1) = true := decide_eq_true c12
     clear c12
     by_cases c13 : x12_1 < (y669.length : Int)
     ·rw [if_pos c13] at H
      have c13b0 : decide (x12_1 < (y669.length : Int)) = true := decide_eq_true c13
      clear c13
      obtain ⟨⟨t674, t675⟩, A14, H⟩ := ob_ H
      try dsimp only at H
      obtain ⟨⟨t676, t677⟩, A15, H⟩ := ob_ H
      try dsimp only at H
      obtain ⟨t678, A16, H⟩ := ob_ H
      try dsimp only at H
      obtain ⟨⟨t679, t680⟩, A17, H⟩ := ob_ H
      try dsimp only at H
      obtain ⟨⟨t681, t682⟩, A18, H⟩ := ob_ H
      try dsimp only at H
      obtain ⟨t683, A19, H⟩ := ob_ H
      try dsimp only at H
      obtain ⟨⟨t684, t685⟩, A20, H⟩ := ob_ H
      try dsimp only at H
      obtain ⟨⟨t686, t687⟩, A21, H⟩ := ob_ H
      try dsimp only at H
      obtain ⟨t688, A22, H⟩ := ob_ H
      try dsimp only at H
      obtain ⟨⟨t689, t690⟩, A23, H⟩ := ob_ H
      try dsimp only at H
      obtain ⟨⟨t691, t692⟩, A24, H⟩ := ob_ H
      try dsimp only at H
      obtain ⟨t693, A25, H⟩ := ob_ H
      try dsimp only at H
      by_cases c26 : t678 = true
      ·subst c26
       have H1 : (if t683 = true then (if t688 = true then (if t693 = true then (l05_PairSteps.l0 k1 a0 a1 a2 a3 t665 y666 y669 (wrap64 (x12_1 + 1))) else (none)) else (none)) else (none)) = some r := by rw [if_pos rfl] at H; exact H
       clear H
       have H := H1
       clear H1
       by_cases c27 : t683 = true
       ·subst c27
        have H1 : (if t688 = true then (if t693 = true then (l05_PairSteps.l0 k1 a0 a1 a2 a3 t665 y666 y669 (wrap64 (x12_1 + 1))) else (none)) else (none)) = some r := by rw [if_pos rfl] at H; exact H
        clear H
        have H := H1
        clear H1
        by_cases c28 : t688 = true
        ·subst c28
         have H1 : (if t693 = true then (l05_PairSteps.l0 k1 a0 a1 a2 a3 t665 y666 y669 (wrap64 (x12_1 + 1))) else (none)) = some r := by rw [if_pos rfl] at H; exact H
         clear H
         have H := H1
         clear H1
         by_cases c29 : t693 = true
         ·subst c29
          have H1 : (l05_PairSteps.l0 k1 a0 a1 a2 a3 t665 y666 y669 (wrap64 (x12_1 + 1))) = some r := by rw [if_pos rfl] at H; exact H
          clear H
          have H := H1
          clear H1
          have H' := Aside0.mk H
          clear H
          obtain ⟨Ao30, co30, eo30⟩ := Kd.R_slice HO_10.out
          subst eo30
          have p672 : 0 ≤ (x12_1 : Int) := of_decide_eq_true (by first | (with_reducible assumption) | assumption)
          have q672 : x12_1 < (y666.length : Int) := of_decide_eq_true (by first | (with_reducible assumption) | assumption)
          obtain ⟨ad672, e672, hx672_0⟩ := Kd.at_float (Kd.R_reads' HO_10.out).2.2 x12_1 p672 q672
          cases e672
          replace p672 := eq_true p672
          replace q672 := eq_true q672
          obtain ⟨Ao31, co31, eo31⟩ := Kd.R_slice HO_11.out
          subst eo31
          have p673 : 0 ≤ (x12_1 : Int) := of_decide_eq_true (by first | (with_reducible assumption) | assumption)
          have q673 : x12_1 < (y669.length : Int) := of_decide_eq_true (by first | (with_reducible assumption) | assumption)
          obtain ⟨ad673, e673, hx673_0⟩ := Kd.at_float (Kd.R_reads' HO_11.out).2.2 x12_1 p673 q673
          cases e673
          replace p673 := eq_true p673
          replace q673 := eq_true q673
          go_wp2_with (first | ((with_reducible refine gate_callee (f := 12) rfl ?_); refine goesM (some 51) Try.func12 #[.float .f64 (rdOf (0 : Nat) y666 x12_1), .float .f64 (rdOf (0 : Nat) y669 x12_1)] ?_; (with_reducible refine (pair_Sum.calls (rdOf (0 : Nat) y666 x12_1) (rdOf (0 : Nat) y669 x12_1) t674 t675 _ A14.out).mono ?_); rintro e w32 ⟨rfl, hb⟩; refine ⟨_, rfl, ?_⟩; have n0_ := Aside0.mk (Kd.R_below (rr_ HO_10) hb); have n1_ := Aside0.mk (Kd.R_below (rr_ HO_11) hb); have n2_ := bs_ HB hb; clear HO_10; clear HO_11; clear HB; have HO_10 := n0_; have HO_11 := n1_; have HB := n2_; clear n0_ n1_ n2_; (try clear hb); (try clear hb2); (try clear hk); (try clear hi)) | ((with_reducible refine gate_callee (f := 17) rfl ?_); refine goesM (some 54) Try.func17 #[.float .f64 (rdOf (0 : Nat) y666 x12_1), .float .f64 (rdOf (0 : Nat) y669 x12_1)] ?_; (with_reducible refine (r05_Sum.calls k1 (rdOf (0 : Nat) y666 x12_1) (rdOf (0 : Nat) y669 x12_1) t676 t677 _ A15.out).mono ?_); rintro e w33 ⟨rfl, hb⟩; refine ⟨_, rfl, ?_⟩; have n0_ := Aside0.mk (Kd.R_below (rr_ HO_10) hb); have n1_ := Aside0.mk (Kd.R_below (rr_ HO_11) hb); have n2_ := bs_ HB hb; clear HO_10; clear HO_11; clear HB; have HO_10 := n0_; have HO_11 := n1_; have HB := n2_; clear n0_ n1_ n2_; (try clear hb); (try clear hb2); (try clear hk); (try clear hi)) | ((with_reducible refine gate_callee (f := 16) rfl ?_); refine goesM (some 55) Try.func16 #[.agg #[.float .f64 t674, .float .f64 t675], .agg #[.float .f64 t676, .float .f64 t677]] ?_; (with_reducible refine (r05_SamePair.calls t674 t675 t676 t677 true _ A16.out).mono ?_); rintro e w34 ⟨rfl, hb⟩; refine ⟨_, rfl, ?_⟩; have n0_ := Aside0.mk (Kd.R_below (rr_ HO_10) hb); have n1_ := Aside0.mk (Kd.R_below (rr_ HO_11) hb); have n2_ := bs_ HB hb; clear HO_10; clear HO_11; clear HB; have HO_10 := n0_; have HO_11 := n1_; have HB := n2_; clear n0_ n1_ n2_; (try clear hb); (try clear hb2); (try clear hk); (try clear hi)) | ((with_reducible refine gate_callee (f := 18) rfl ?_); refine goesM (some 58) Try.func18 #[.float .f64 (rdOf (0 : Nat) y666 x12_1), .float .f64 (rdOf (0 : Nat) y669 x12_1)] ?_; (with_reducible refine (pair_Quick.calls (rdOf (0 : Nat) y666 x12_1) (rdOf (0 : Nat) y669 x12_1) t679 t680 _ A17.out).mono ?_); rintro e w35 ⟨rfl, hb⟩; refine ⟨_, rfl, ?_⟩; have n0_ := Aside0.mk (Kd.R_below (rr_ HO_10) hb); have n1_ := Aside0.mk (Kd.R_below (rr_ HO_11) hb); have n2_ := bs_ HB hb; clear HO_10; clear HO_11; clear HB; have HO_10 := n0_; have HO_11 := n1_; have HB := n2_; clear n0_ n1_ n2_; (try clear hb); (try clear hb2); (try clear hk); (try clear hi)) | ((with_reducible refine gate_callee (f := 19) rfl ?_); refine goesM (some 61) Try.func19 #[.float .f64 (rdOf (0 : Nat) y666 x12_1), .float .f64 (rdOf (0 : Nat) y669 x12_1)] ?_; (with_reducible refine (r05_Quick.calls k1 (rdOf (0 : Nat) y666 x12_1) (rdOf (0 : Nat) y669 x12_1) t681 t682 _ A18.out).mono ?_); rintro e w36 ⟨rfl, hb⟩; refine ⟨_, rfl, ?_⟩; have n0_ := Aside0.mk (Kd.R_below (rr_ HO_10) hb); have n1_ := Aside0.mk (Kd.R_below (rr_ HO_11) hb); have n2_ := bs_ HB hb; clear HO_10; clear HO_11; clear HB; have HO_10 := n0_; have HO_11 := n1_; have HB := n2_; clear n0_ n1_ n2_; (try clear hb); (try clear hb2); (try clear hk); (try clear hi)) | ((with_reducible refine gate_callee (f := 16) rfl ?_); refine goesM (some 62) Try.func16 #[.agg #[.float .f64 t679, .float .f64 t680], .agg #[.float .f64 t681, .float .f64 t682]] ?_; (with_reducible refine (r05_SamePair.calls t679 t680 t681 t682 true _ A19.out).mono ?_); rintro e w37 ⟨rfl, hb⟩; refine ⟨_, rfl, ?_⟩; have n0_ := Aside0.mk (Kd.R_below (rr_ HO_10) hb); have n1_ := Aside0.mk (Kd.R_below (rr_ HO_11) hb); have n2_ := bs_ HB hb; clear HO_10; clear HO_11; clear HB; have HO_10 := n0_; have HO_11 := n1_; have HB := n2_; clear n0_ n1_ n2_; (try clear hb); (try clear hb2); (try clear hk); (try clear hi)) | ((with_reducible refine gate_callee (f := 13) rfl ?_); refine goesM (some 64) Try.func13 #[.float .f64 (rdOf (0 : Nat) y666 x12_1)] ?_; (with_reducible refine (pair_Halves.calls (rdOf (0 : Nat) y666 x12_1) t684 t685 _ A20.out).mono ?_); rintro e w38 ⟨rfl, hb⟩; refine ⟨_, rfl, ?_⟩; have n0_ := Aside0.mk (Kd.R_below (rr_ HO_10) hb); have n1_ := Aside0.mk (Kd.R_below (rr_ HO_11) hb); have n2_ := bs_ HB hb; clear HO_10; clear HO_11; clear HB; have HO_10 := n0_; have HO_11 := n1_; have HB := n2_; clear n0_ n1_ n2_; (try clear hb); (try clear hb2); (try clear hk); (try clear hi)) | ((with_reducible refine gate_callee (f := 20) rfl ?_); refine goesM (some 66) Try.func20 #[.float .f64 (rdOf (0 : Nat) y666 x12_1)] ?_; (with_reducible refine (r05_Halves.calls k1 (rdOf (0 : Nat) y666 x12_1) t686 t687 _ A21.out).mono ?_); rintro e w39 ⟨rfl, hb⟩; refine ⟨_, rfl, ?_⟩; have n0_ := Aside0.mk (Kd.R_below (rr_ HO_10) hb); have n1_ := Aside0.mk (Kd.R_below (rr_ HO_11) hb); have n2_ := bs_ HB hb; clear HO_10; clear HO_11; clear HB; have HO_10 := n0_; have HO_11 := n1_; have HB := n2_; clear n0_ n1_ n2_; (try clear hb); (try clear hb2); (try clear hk); (try clear hi)) | ((with_reducible refine gate_callee (f := 16) rfl ?_); refine goesM (some 67) Try.func16 #[.agg #[.float .f64 t684, .float .f64 t685], .agg #[.float .f64 t686, .float .f64 t687]] ?_; (with_reducible refine (r05_SamePair.calls t684 t685 t686 t687 true _ A22.out).mono ?_); rintro e w40 ⟨rfl, hb⟩; refine ⟨_, rfl, ?_⟩; have n0_ := Aside0.mk (Kd.R_below (rr_ HO_10) hb); have n1_ := Aside0.mk (Kd.R_below (rr_ HO_11) hb); have n2_ := bs_ HB hb; clear HO_10; clear HO_11; clear HB; have HO_10 := n0_; have HO_11 := n1_; have HB := n2_; clear n0_ n1_ n2_; (try clear hb); (try clear hb2); (try clear hk); (try clear hi)) | ((with_reducible refine gate_callee (f := 14) rfl ?_); refine goesM (some 70) Try.func14 #[.float .f64 (rdOf (0 : Nat) y666 x12_1), .float .f64 (rdOf (0 : Nat) y669 x12_1)] ?_; (with_reducible refine (pair_Product.calls (rdOf (0 : Nat) y666 x12_1) (rdOf (0 : Nat) y669 x12_1) t689 t690 _ A23.out).mono ?_); rintro e w41 ⟨rfl, hb⟩; refine ⟨_, rfl, ?_⟩; have n0_ := Aside0.mk (Kd.R_below (rr_ HO_10) hb); have n1_ := Aside0.mk (Kd.R_below (rr_ HO_11) hb); have n2_ := bs_ HB hb; clear HO_10; clear HO_11; clear HB; have HO_10 := n0_; have HO_11 := n1_; have HB := n2_; clear n0_ n1_ n2_; (try clear hb); (try clear hb2); (try clear hk); (try clear hi)) | ((with_reducible refine gate_callee (f := 21) rfl ?_); refine goesM (some 73) Try.func21 #[.float .f64 (rdOf (0 : Nat) y666 x12_1), .float .f64 (rdOf (0 : Nat) y669 x12_1)] ?_; (with_reducible refine (r05_Product.calls k1 (rdOf (0 : Nat) y666 x12_1) (rdOf (0 : Nat) y669 x12_1) t691 t692 _ A24.out).mono ?_); rintro e w42 ⟨rfl, hb⟩; refine ⟨_, rfl, ?_⟩; have n0_ := Aside0.mk (Kd.R_below (rr_ HO_10) hb); have n1_ := Aside0.mk (Kd.R_below (rr_ HO_11) hb); have n2_ := bs_ HB hb; clear HO_10; clear HO_11; clear HB; have HO_10 := n0_; have HO_11 := n1_; have HB := n2_; clear n0_ n1_ n2_; (try clear hb); (try clear hb2); (try clear hk); (try clear hi)) | ((with_reducible refine gate_callee (f := 16) rfl ?_); refine goesM (some 74) Try.func16 #[.agg #[.float .f64 t689, .float .f64 t690], .agg #[.float .f64 t691, .float .f64 t692]] ?_; (with_reducible refine (r05_SamePair.calls t689 t690 t691 t692 true _ A25.out).mono ?_); rintro e w43 ⟨rfl, hb⟩; refine ⟨_, rfl, ?_⟩; have n0_ := Aside0.mk (Kd.R_below (rr_ HO_10) hb); have n1_ := Aside0.mk (Kd.R_below (rr_ HO_11) hb); have n2_ := bs_ HB hb; clear HO_10; clear HO_11; clear HB; have HO_10 := n0_; have HO_11 := n1_; have HB := n2_; clear n0_ n1_ n2_; (try clear hb); (try clear hb2); (try clear hk); (try clear hi)))
          go_roundg k1
          case measure => have := HK1.out; omega
          case rel => exact ⟨(wrap64 (x12_1 + 1)), (by first | rfl | (simp; done) | (simp [*]; done)), H', ⟨by have := HK1.out; omega⟩, ⟨rr_ HO_10⟩, ⟨rr_ HO_11⟩, ⟨bl_ HB⟩⟩
         ·replace c29 := Bool.eq_false_iff.mpr c29
          subst c29
          have H1 : (none) = some r := by rw [if_neg (show ¬ (false = true) by decide)] at H; exact H
          clear H
          have H := H1
          clear H1
          exact absurd H (by simp)
        ·replace c28 := Bool.eq_false_iff.mpr c28
         subst c28
         have H1 : (none) = some r := by rw [if_neg (show ¬ (false = true) by decide)] at H; exact H
         clear H
         have H := H1
         clear H1
         exact absurd H (by simp)
       ·replace c27 := Bool.eq_false_iff.mpr c27
        subst c27
        have H1 : (none) = some r := by rw [if_neg (show ¬ (false = true) by decide)] at H; exact H
        clear H
        have H := H1
        clear H1
        exact absurd H (by simp)
      ·replace c26 := Bool.eq_false_iff.mpr c26
       subst c26
       have H1 : (none) = some r := by rw [if_neg (show ¬ (false = true) by decide)] at H; exact H
       clear H
       have H := H1
       clear H1
       exact absurd H (by simp)
     ·rw [if_neg c13] at H
      exact absurd H (by simp)
    ·rw [if_neg c12] at H
     exact absurd H (by simp)
   ·rw [if_neg c11] at H
    have c11b0 : decide (x12_1 < (y666.length : Int)) = false := decide_eq_false c11
    clear c11
    obtain ⟨⟨t696, t697⟩, A44, H⟩ := ob_ H
    try dsimp only at H
    obtain ⟨⟨t698, t699⟩, A45, H⟩ := ob_ H
    try dsimp only at H
    obtain ⟨t700, A46, H⟩ := ob_ H
    try dsimp only at H
    obtain ⟨⟨t701, t702⟩, A47, H⟩ := ob_ H
    try dsimp only at H
    obtain ⟨⟨t703, t704⟩, A48, H⟩ := ob_ H
    try dsimp only at H
    obtain ⟨t705, A49, H⟩ := ob_ H
    try dsimp only at H
    obtain ⟨t706, A50, H⟩ := ob_ H
    try dsimp only at H
    obtain ⟨t707, A51, H⟩ := ob_ H
    try dsimp only at H
    obtain ⟨t708, A52, H⟩ := ob_ H
    try dsimp only at H
    by_cases c53 : t665 = true
    ·subst c53
     have H1 : (if t700 = true then (if t705 = true then (some t708) else (none)) else (none)) = some r := by rw [if_pos rfl] at H; exact H
     clear H
     have H := H1
     clear H1
     by_cases c54 : t700 = true
     ·subst c54
      have H1 : (if t705 = true then (some t708) else (none)) = some r := by rw [if_pos rfl] at H; exact H
      clear H
      have H := H1
      clear H1
      by_cases c55 : t705 = true
      ·subst c55
       have H1 : (some t708) = some r := by rw [if_pos rfl] at H; exact H
       clear H
       have H := H1
       clear H1
       obtain rfl := Option.some.inj H
       obtain ⟨Ao56, co56, eo56⟩ := Kd.R_slice HO_10.out
       subst eo56
       try go_wp2_with (first | ((with_reducible refine gate_dst (N := 19) rfl ?_); refine box_event ?hg (N := 19) ?hd (cs := #[.float .f64 0, .float .f64 0]) (t := 30) ?hr ?_; (case hd => rfl); (case hg => rfl); (case hr => first | (go_simp; done) | (go_simp; rfl)); intro gb694 hg w57 hbox hb; have n0_ := Aside0.mk (Kd.R_below (rr_ HO_10) hb); have n1_ := Aside0.mk (Kd.R_below (rr_ HO_11) hb); have n2_ := bs_ HB hb; have n3_ := Aside0.mk (hbox); have n4_ := ge_ HB hg; have n5_ := ge_ HB hg; clear HO_10; clear HO_11; clear HB; have HO_10 := n0_; have HO_11 := n1_; have HB := n2_; have BK694 := n3_; have GW694 := n4_; have GE694 := n5_; clear n0_ n1_ n2_ n3_ n4_ n5_; clear hb hbox hg; have hcz58_0 : w57.cell? ⟨gb694, 0, none⟩ = some (.float .f64 0) := (blk_cell BK694.out 0).trans rfl; have hcz58_1 : w57.cell? ⟨gb694, 1, none⟩ = some (.float .f64 0) := (blk_cell BK694.out 1).trans rfl; have hfz58_0 := blk_frozen BK694.out 0; have hfz58_1 := blk_frozen BK694.out 1) | ((with_reducible refine gate_dst (N := 20) rfl ?_); refine box_event ?hg (N := 20) ?hd (cs := #[.float .f64 0, .float .f64 0]) (t := 30) ?hr ?_; (case hd => rfl); (case hg => rfl); (case hr => first | (go_simp; done) | (go_simp; rfl)); intro gb695 hg w59 hbox hb; have n0_ := Aside0.mk (Kd.R_below (by (with_reducible repeat (first | apply rA | apply rN | apply rD)); exact (Kd.R_mono (Kd.R_far (p := ⟨gb694, 1, none⟩) (Kd.R_far (p := ⟨gb694, 0, none⟩) (Kd.R_types HO_10.out BK694.out (by decide)) (fun _ hk => hk.2) (.float .f64 a0)) (fun _ hk => hk.2) (.float .f64 a1)) (fun _ h_ => h_.1))) hb); have n1_ := Aside0.mk (Kd.R_below (by (with_reducible repeat (first | apply rA | apply rN | apply rD)); exact (Kd.R_mono (Kd.R_far (p := ⟨gb694, 1, none⟩) (Kd.R_far (p := ⟨gb694, 0, none⟩) (Kd.R_types HO_11.out BK694.out (by decide)) (fun _ hk => hk.2) (.float .f64 a0)) (fun _ hk => hk.2) (.float .f64 a1)) (fun _ h_ => h_.1))) hb); have n2_ := Aside0.mk (blk_below (g := gb694) (o := .cells #[.float .f64 a0, .float .f64 a1] 30 (0, 0)) (by (with_reducible repeat (first | apply bN | apply bD | apply bA)); refine blk_put (cs := #[.float .f64 a0, .float .f64 0]) ?_ 1 _ rfl; (with_reducible repeat (first | apply bN | apply bD | apply bA)); refine blk_put (cs := #[.float .f64 0, .float .f64 0]) ?_ 0 _ rfl; exact bk_ BK694) hb); have n3_ := bs_ HB hb; have n4_ := Aside0.mk (hbox); have n5_ := ge_ HB hg; have n6_ := ge_ HB hg; have n7_ := Aside0.mk ((by rw [hg]; exact Nat.ne_of_lt (blk_lt (g := gb694) (o := .cells #[.float .f64 a0, .float .f64 a1] 30 (0, 0)) (by (with_reducible repeat (first | apply bN | apply bD | apply bA)); refine blk_put (cs := #[.float .f64 a0, .float .f64 0]) ?_ 1 _ rfl; (with_reducible repeat (first | apply bN | apply bD | apply bA)); refine blk_put (cs := #[.float .f64 0, .float .f64 0]) ?_ 0 _ rfl; exact bk_ BK694)) : gb694 ≠ gb695)); have n8_ := Aside0.mk ((by rw [hg]; exact Nat.ne_of_gt (blk_lt (g := gb694) (o := .cells #[.float .f64 a0, .float .f64 a1] 30 (0, 0)) (by (with_reducible repeat (first | apply bN | apply bD | apply bA)); refine blk_put (cs := #[.float .f64 a0, .float .f64 0]) ?_ 1 _ rfl; (with_reducible repeat (first | apply bN | apply bD | apply bA)); refine blk_put (cs := #[.float .f64 0, .float .f64 0]) ?_ 0 _ rfl; exact bk_ BK694)) : gb695 ≠ gb694)); clear HO_10; clear HO_11; clear BK694; clear HB; have HO_10 := n0_; have HO_11 := n1_; have BK694 := n2_; have HB := n3_; have BK695 := n4_; have GW695 := n5_; have GE695 := n6_; have NB694_695 := n7_; have NB695_694 := n8_; clear n0_ n1_ n2_ n3_ n4_ n5_ n6_ n7_ n8_; clear hb hbox hg; have hnb60 := NB695_694.out; have hnc60 := NB694_695.out; have hcz61_0 : w59.cell? ⟨gb695, 0, none⟩ = some (.float .f64 0) := (blk_cell BK695.out 0).trans rfl; have hcz61_1 : w59.cell? ⟨gb695, 1, none⟩ = some (.float .f64 0) := (blk_cell BK695.out 1).trans rfl; have hfz61_0 := blk_frozen BK695.out 0; have hfz61_1 := blk_frozen BK695.out 1))
       have n0_ : Aside0 (Kd.R (Kd.float .f64) 23 ((w59.setCell ⟨gb695, 0, none⟩ (.float .f64 a2)).setCell ⟨gb695, 1, none⟩ (.float .f64 a3)) w.heap.size (fun k_ => some k_ ≠ (v670 : Value).ownBlock) (.slice Ao56 y666.length co56) y666) := ⟨by (with_reducible repeat (first | apply rA | apply rN | apply rD)); exact Kd.R_mono (Kd.R_far (p := ⟨gb695, 1, none⟩) (Kd.R_far (p := ⟨gb695, 0, none⟩) (Kd.R_types HO_10.out BK695.out (by decide)) (fun _ hk => hk.2) (.float .f64 a2)) (fun _ hk => hk.2) (.float .f64 a3)) (fun _ hk => hk.1)⟩
       have n1_ : Aside0 (Kd.R (Kd.float .f64) 23 ((w59.setCell ⟨gb695, 0, none⟩ (.float .f64 a2)).setCell ⟨gb695, 1, none⟩ (.float .f64 a3)) w.heap.size (fun k_ => some k_ ≠ (.slice Ao56 y666.length co56 : Value).ownBlock) v670 y669) := ⟨by (with_reducible repeat (first | apply rA | apply rN | apply rD)); exact Kd.R_mono (Kd.R_far (p := ⟨gb695, 1, none⟩) (Kd.R_far (p := ⟨gb695, 0, none⟩) (Kd.R_types HO_11.out BK695.out (by decide)) (fun _ hk => hk.2) (.float .f64 a2)) (fun _ hk => hk.2) (.float .f64 a3)) (fun _ hk => hk.1)⟩
       have n2_ : Aside0 (((w59.setCell ⟨gb695, 0, none⟩ (.float .f64 a2)).setCell ⟨gb695, 1, none⟩ (.float .f64 a3)).heap[gb694]? = some (.cells #[.float .f64 a0, .float .f64 a1] 30 (0, 0))) := ⟨by (with_reducible repeat (first | apply bN | apply bD | apply bA)); refine blk_far ?_ NB694_695.out _; (with_reducible repeat (first | apply bN | apply bD | apply bA)); refine blk_far ?_ NB694_695.out _; exact bk_ BK694⟩
       have n3_ : Aside0 (((w59.setCell ⟨gb695, 0, none⟩ (.float .f64 a2)).setCell ⟨gb695, 1, none⟩ (.float .f64 a3)).heap[gb695]? = some (.cells #[.float .f64 a2, .float .f64 a3] 30 (0, 0))) := ⟨by (with_reducible repeat (first | apply bN | apply bD | apply bA)); refine blk_put (cs := #[.float .f64 a2, .float .f64 0]) ?_ 1 _ rfl; (with_reducible repeat (first | apply bN | apply bD | apply bA)); refine blk_put (cs := #[.float .f64 0, .float .f64 0]) ?_ 0 _ rfl; exact bk_ BK695⟩
       have n4_ : Aside0 (Below w.heap.size w ((w59.setCell ⟨gb695, 0, none⟩ (.float .f64 a2)).setCell ⟨gb695, 1, none⟩ (.float .f64 a3))) := ⟨bl_ HB⟩
       (try clear HO_10)
       (try clear HO_11)
       (try clear BK694)
       (try clear BK695)
       (try clear HB)
       generalize ((w59.setCell ⟨gb695, 0, none⟩ (.float .f64 a2)).setCell ⟨gb695, 1, none⟩ (.float .f64 a3)) = w62 at n0_ n1_ n2_ n3_ n4_ ⊢
       have HO_10 := n0_
       have HO_11 := n1_
       have BK694 := n2_
       have BK695 := n3_
       have HB := n4_
       clear n0_ n1_ n2_ n3_ n4_
       have n0_ := Aside0.mk (Kd.R_drew HO_10.out)
       have n1_ := Aside0.mk (Kd.R_drew HO_11.out)
       have n2_ := Aside0.mk (blk_drew BK694.out)
       have n3_ := Aside0.mk (blk_drew BK695.out)
       have n4_ := Aside0.mk (below_drew1 HB.out)
       clear HO_10
       clear HO_11
       clear BK694
       clear BK695
       clear HB
       have HO_10 := n0_
       have HO_11 := n1_
       have BK694 := n2_
       have BK695 := n3_
       have HB := n4_
       clear n0_ n1_ n2_ n3_ n4_
       refine start_ (n := 8) (S := fun w' => w'.cell? ⟨gb694, 0, none⟩ = some (.float .f64 a0) ∧ w'.cell? ⟨gb694, 1, none⟩ = some (.float .f64 a1) ∧ w'.cell? ⟨gb695, 0, none⟩ = some (.float .f64 a2) ∧ w'.cell? ⟨gb695, 1, none⟩ = some (.float .f64 a3)) (ds := []) #[false, false, false, false, false, false, false, false] (by kernel_rfl) rfl rfl ⟨(blk_cell BK694.out 0).trans rfl, (blk_cell BK694.out 1).trans rfl, (blk_cell BK695.out 0).trans rfl, (blk_cell BK695.out 1).trans rfl⟩ (fun hHeld => ?_); refine with_tabW l05_PairSteps.tab17 l05_PairSteps.bits17 (fun HT_ HW_ => ?_)
       generalize w62.drew = w63 at HO_10 HO_11 BK694 BK695 HB hHeld ⊢
       refine take_ (i := 0) (N := some 95) (v := ?_) (a' := ?_) #[true, false, false, false, false, false, false, false] rfl rfl (take_ofW HT_.out HW_.out (by kernel_rfl)) (fun _ _ _ h => h) (Or.inl ⟨by rfl, ?_⟩) hHeld ?_ ?_
       rotate_left
       ·rintro w' ⟨s0, s1, s2, s3⟩
        go_simp
        with_reducible rfl
       rotate_left
       ·simp only [Act.put, List.setIfInBounds_toArray, List.set_cons_zero, List.set_cons_succ, i64_w, i32_w]
        rfl
       refine take_ (i := 1) (N := some 96) (v := ?_) (a' := ?_) #[true, true, false, false, false, false, false, false] rfl rfl (take_ofW HT_.out HW_.out (by kernel_rfl)) (fun _ _ _ h => h) (Or.inl ⟨by rfl, ?_⟩) hHeld ?_ ?_
       rotate_left
       ·rintro w' ⟨s0, s1, s2, s3⟩
        go_simp
        with_reducible rfl
       rotate_left
       ·simp only [Act.put, List.setIfInBounds_toArray, List.set_cons_zero, List.set_cons_succ, i64_w, i32_w]
        rfl
       refine take_ (i := 3) (N := some 98) (v := ?_) (a' := ?_) #[true, true, false, true, false, false, false, false] rfl rfl (take_ofW HT_.out HW_.out (by kernel_rfl)) (fun _ _ _ h => h) (Or.inl ⟨by rfl, ?_⟩) hHeld ?_ ?_
       rotate_left
       ·rintro w' ⟨s0, s1, s2, s3⟩
        go_simp
        with_reducible rfl
       rotate_left
       ·simp only [Act.put, List.setIfInBounds_toArray, List.set_cons_zero, List.set_cons_succ, i64_w, i32_w]
        rfl
       refine take_ (i := 4) (N := some 99) (v := ?_) (a' := ?_) #[true, true, false, true, true, false, false, false] rfl rfl (take_ofW HT_.out HW_.out (by kernel_rfl)) (fun _ _ _ h => h) (Or.inl ⟨by rfl, ?_⟩) hHeld ?_ ?_
       rotate_left
       ·rintro w' ⟨s0, s1, s2, s3⟩
        go_simp
        with_reducible rfl
       rotate_left
       ·simp only [Act.put, List.setIfInBounds_toArray, List.set_cons_zero, List.set_cons_succ, i64_w, i32_w]
        rfl
       refine one_ (i := 2) (N := some 97) #[true, true, true, true, true, false, false, false] rfl rfl (one_of HT_.out (by kernel_rfl)) (by decide) (fun K hK => ?_)
       refine goes_ Try.func22 (by kernel_rfl) rfl #[.agg #[.float .f64 a0, .float .f64 a1], .agg #[.float .f64 a2, .float .f64 a3]] (by rfl) rfl rfl (by (try simp only [List.map_toArray, List.map_cons, List.map_nil]); first | done | rfl | (simp only [List.length_drop, List.length_take]; rfl)) ?_
       with_reducible refine (pair_Add.calls a0 a1 a2 a3 t696 t697 _ A44.out).mono ?_
       rintro e w64 ⟨rfl, hb⟩
       refine ⟨_, rfl, ?_⟩
       have n0_ := Aside0.mk (Kd.R_below (rr_ HO_10) hb)
       have n1_ := Aside0.mk (Kd.R_below (rr_ HO_11) hb)
       have n2_ := kb_ BK694 hb
       have n3_ := kb_ BK695 hb
       have n4_ := bs_ HB hb
       clear HO_10
       clear HO_11
       clear BK694
       clear BK695
       clear HB
       have HO_10 := n0_
       have HO_11 := n1_
       have BK694 := n2_
       have BK695 := n3_
       have HB := n4_
       clear n0_ n1_ n2_ n3_ n4_
       (try clear hb)
       (try clear hb2)
       (try clear hk)
       (try clear hi)
       refine hK.out _ _ ⟨(blk_cell BK694.out 0).trans rfl, (blk_cell BK694.out 1).trans rfl, (blk_cell BK695.out 0).trans rfl, (blk_cell BK695.out 1).trans rfl⟩ (fun hHeld => ?_)
       clear hK K
       refine norm_ (a' := ?_) ?_ ?_
       rotate_left
       ·show Act.put _ (some 97) _ = _
        simp only [Act.put, List.setIfInBounds_toArray, List.set_cons_zero, List.set_cons_succ, i64_w, i32_w]
        rfl
       refine one_ (i := 5) (N := some 100) #[true, true, true, true, true, true, false, false] rfl rfl (one_of HT_.out (by kernel_rfl)) (by decide) (fun K hK => ?_)
       refine goes_ Try.func23 (by kernel_rfl) rfl #[.agg #[.float .f64 a0, .float .f64 a1], .agg #[.float .f64 a2, .float .f64 a3]] (by rfl) rfl rfl (by (try simp only [List.map_toArray, List.map_cons, List.map_nil]); first | done | rfl | (simp only [List.length_drop, List.length_take]; rfl)) ?_
       with_reducible refine (r05_Add.calls k1 a0 a1 a2 a3 t698 t699 _ A45.out).mono ?_
       rintro e w65 ⟨rfl, hb⟩
       refine ⟨_, rfl, ?_⟩
       have n0_ := Aside0.mk (Kd.R_below (rr_ HO_10) hb)
       have n1_ := Aside0.mk (Kd.R_below (rr_ HO_11) hb)
       have n2_ := kb_ BK694 hb
       have n3_ := kb_ BK695 hb
       have n4_ := bs_ HB hb
       clear HO_10
       clear HO_11
       clear BK694
       clear BK695
       clear HB
       have HO_10 := n0_
       have HO_11 := n1_
       have BK694 := n2_
       have BK695 := n3_
       have HB := n4_
       clear n0_ n1_ n2_ n3_ n4_
       (try clear hb)
       (try clear hb2)
       (try clear hk)
       (try clear hi)
       refine hK.out _ _ ⟨(blk_cell BK694.out 0).trans rfl, (blk_cell BK694.out 1).trans rfl, (blk_cell BK695.out 0).trans rfl, (blk_cell BK695.out 1).trans rfl⟩ (fun hHeld => ?_)
       clear hK K
       refine norm_ (a' := ?_) ?_ ?_
       rotate_left
       ·show Act.put _ (some 100) _ = _
        simp only [Act.put, List.setIfInBounds_toArray, List.set_cons_zero, List.set_cons_succ, i64_w, i32_w]
        rfl
       refine one_ (i := 6) (N := some 101) #[true, true, true, true, true, true, true, false] rfl rfl (one_of HT_.out (by kernel_rfl)) (by decide) (fun K hK => ?_)
       refine goes_ Try.func16 (by kernel_rfl) rfl #[.agg #[.float .f64 t696, .float .f64 t697], .agg #[.float .f64 t698, .float .f64 t699]] (by rfl) rfl rfl (by (try simp only [List.map_toArray, List.map_cons, List.map_nil]); first | done | rfl | (simp only [List.length_drop, List.length_take]; rfl)) ?_
       with_reducible refine (r05_SamePair.calls t696 t697 t698 t699 true _ A46.out).mono ?_
       rintro e w66 ⟨rfl, hb⟩
       refine ⟨_, rfl, ?_⟩
       have n0_ := Aside0.mk (Kd.R_below (rr_ HO_10) hb)
       have n1_ := Aside0.mk (Kd.R_below (rr_ HO_11) hb)
       have n2_ := kb_ BK694 hb
       have n3_ := kb_ BK695 hb
       have n4_ := bs_ HB hb
       clear HO_10
       clear HO_11
       clear BK694
       clear BK695
       clear HB
       have HO_10 := n0_
       have HO_11 := n1_
       have BK694 := n2_
       have BK695 := n3_
       have HB := n4_
       clear n0_ n1_ n2_ n3_ n4_
       (try clear hb)
       (try clear hb2)
       (try clear hk)
       (try clear hi)
       refine hK.out _ _ ⟨(blk_cell BK694.out 0).trans rfl, (blk_cell BK694.out 1).trans rfl, (blk_cell BK695.out 0).trans rfl, (blk_cell BK695.out 1).trans rfl⟩ (fun hHeld => ?_)
       clear hK K
       refine norm_ (a' := ?_) ?_ ?_
       rotate_left
       ·show Act.put _ (some 101) _ = _
        simp only [Act.put, List.setIfInBounds_toArray, List.set_cons_zero, List.set_cons_succ, i64_w, i32_w]
        rfl
       refine pure_ (i := 7) (N := some 21) (v := ?_) (a' := ?_) #[true, true, true, true, true, true, true, true] rfl rfl (any_of HT_.out (by kernel_rfl)) (fun _ _ _ h => h) (Or.inl ⟨by rfl, ?_⟩) ?_ ?_
       rotate_left
       ·intro w'
        go_simp
        with_reducible rfl
       rotate_left
       ·simp only [Act.put, List.setIfInBounds_toArray, List.set_cons_zero, List.set_cons_succ, i64_w, i32_w]
        rfl
       refine done_ (done_of HT_.out (by kernel_rfl)) ?_
       try go_wp2
       have n0_ := Aside0.mk (Kd.R_drew HO_10.out)
       have n1_ := Aside0.mk (Kd.R_drew HO_11.out)
       have n2_ := Aside0.mk (blk_drew BK694.out)
       have n3_ := Aside0.mk (blk_drew BK695.out)
       have n4_ := Aside0.mk (below_drew1 HB.out)
       clear HO_10
       clear HO_11
       clear BK694
       clear BK695
       clear HB
       have HO_10 := n0_
       have HO_11 := n1_
       have BK694 := n2_
       have BK695 := n3_
       have HB := n4_
       clear n0_ n1_ n2_ n3_ n4_
       refine start_ (n := 8) (S := fun w' => w'.cell? ⟨gb694, 0, none⟩ = some (.float .f64 a0) ∧ w'.cell? ⟨gb694, 1, none⟩ = some (.float .f64 a1) ∧ w'.cell? ⟨gb695, 0, none⟩ = some (.float .f64 a2) ∧ w'.cell? ⟨gb695, 1, none⟩ = some (.float .f64 a3)) (ds := []) #[false, false, false, false, false, false, false, false] (by kernel_rfl) rfl rfl ⟨(blk_cell BK694.out 0).trans rfl, (blk_cell BK694.out 1).trans rfl, (blk_cell BK695.out 0).trans rfl, (blk_cell BK695.out 1).trans rfl⟩ (fun hHeld => ?_); refine with_tabW l05_PairSteps.tab18 l05_PairSteps.bits18 (fun HT_ HW_ => ?_)
       generalize w66.drew = w67 at HO_10 HO_11 BK694 BK695 HB hHeld ⊢
       refine take_ (i := 0) (N := some 102) (v := ?_) (a' := ?_) #[true, false, false, false, false, false, false, false] rfl rfl (take_ofW HT_.out HW_.out (by kernel_rfl)) (fun _ _ _ h => h) (Or.inl ⟨by rfl, ?_⟩) hHeld ?_ ?_
       rotate_left
       ·rintro w' ⟨s0, s1, s2, s3⟩
        go_simp
        with_reducible rfl
       rotate_left
       ·simp only [Act.put, List.setIfInBounds_toArray, List.set_cons_zero, List.set_cons_succ, i64_w, i32_w]
        rfl
       refine take_ (i := 1) (N := some 103) (v := ?_) (a' := ?_) #[true, true, false, false, false, false, false, false] rfl rfl (take_ofW HT_.out HW_.out (by kernel_rfl)) (fun _ _ _ h => h) (Or.inl ⟨by rfl, ?_⟩) hHeld ?_ ?_
       rotate_left
       ·rintro w' ⟨s0, s1, s2, s3⟩
        go_simp
        with_reducible rfl
       rotate_left
       ·simp only [Act.put, List.setIfInBounds_toArray, List.set_cons_zero, List.set_cons_succ, i64_w, i32_w]
        rfl
       refine take_ (i := 3) (N := some 105) (v := ?_) (a' := ?_) #[true, true, false, true, false, false, false, false] rfl rfl (take_ofW HT_.out HW_.out (by kernel_rfl)) (fun _ _ _ h => h) (Or.inl ⟨by rfl, ?_⟩) hHeld ?_ ?_
       rotate_left
       ·rintro w' ⟨s0, s1, s2, s3⟩
        go_simp
        with_reducible rfl
       rotate_left
       ·simp only [Act.put, List.setIfInBounds_toArray, List.set_cons_zero, List.set_cons_succ, i64_w, i32_w]
        rfl
       refine take_ (i := 4) (N := some 106) (v := ?_) (a' := ?_) #[true, true, false, true, true, false, false, false] rfl rfl (take_ofW HT_.out HW_.out (by kernel_rfl)) (fun _ _ _ h => h) (Or.inl ⟨by rfl, ?_⟩) hHeld ?_ ?_
       rotate_left
       ·rintro w' ⟨s0, s1, s2, s3⟩
        go_simp
        with_reducible rfl
       rotate_left
       ·simp only [Act.put, List.setIfInBounds_toArray, List.set_cons_zero, List.set_cons_succ, i64_w, i32_w]
        rfl
       refine one_ (i := 2) (N := some 104) #[true, true, true, true, true, false, false, false] rfl rfl (one_of HT_.out (by kernel_rfl)) (by decide) (fun K hK => ?_)
       refine goes_ Try.func24 (by kernel_rfl) rfl #[.agg #[.float .f64 a0, .float .f64 a1], .agg #[.float .f64 a2, .float .f64 a3]] (by rfl) rfl rfl (by (try simp only [List.map_toArray, List.map_cons, List.map_nil]); first | done | rfl | (simp only [List.length_drop, List.length_take]; rfl)) ?_
       with_reducible refine (pair_Mul.calls a0 a1 a2 a3 t701 t702 _ A47.out).mono ?_
       rintro e w68 ⟨rfl, hb⟩
       refine ⟨_, rfl, ?_⟩
       have n0_ := Aside0.mk (Kd.R_below (rr_ HO_10) hb)
       have n1_ := Aside0.mk (Kd.R_below (rr_ HO_11) hb)
       have n2_ := kb_ BK694 hb
       have n3_ := kb_ BK695 hb
       have n4_ := bs_ HB hb
       clear HO_10
       clear HO_11
       clear BK694
       clear BK695
       clear HB
       have HO_10 := n0_
       have HO_11 := n1_
       have BK694 := n2_
       have BK695 := n3_
       have HB := n4_
       clear n0_ n1_ n2_ n3_ n4_
       (try clear hb)
       (try clear hb2)
       (try clear hk)
       (try clear hi)
       refine hK.out _ _ ⟨(blk_cell BK694.out 0).trans rfl, (blk_cell BK694.out 1).trans rfl, (blk_cell BK695.out 0).trans rfl, (blk_cell BK695.out 1).trans rfl⟩ (fun hHeld => ?_)
       clear hK K
       refine norm_ (a' := ?_) ?_ ?_
       rotate_left
       ·show Act.put _ (some 104) _ = _
        simp only [Act.put, List.setIfInBounds_toArray, List.set_cons_zero, List.set_cons_succ, i64_w, i32_w]
        rfl
       refine one_ (i := 5) (N := some 107) #[true, true, true, true, true, true, false, false] rfl rfl (one_of HT_.out (by kernel_rfl)) (by decide) (fun K hK => ?_)
       refine goes_ Try.func25 (by kernel_rfl) rfl #[.agg #[.float .f64 a0, .float .f64 a1], .agg #[.float .f64 a2, .float .f64 a3]] (by rfl) rfl rfl (by (try simp only [List.map_toArray, List.map_cons, List.map_nil]); first | done | rfl | (simp only [List.length_drop, List.length_take]; rfl)) ?_
       with_reducible refine (r05_Mul.calls k1 a0 a1 a2 a3 t703 t704 _ A48.out).mono ?_
       rintro e w69 ⟨rfl, hb⟩
       refine ⟨_, rfl, ?_⟩
       have n0_ := Aside0.mk (Kd.R_below (rr_ HO_10) hb)
       have n1_ := Aside0.mk (Kd.R_below (rr_ HO_11) hb)
       have n2_ := kb_ BK694 hb
       have n3_ := kb_ BK695 hb
       have n4_ := bs_ HB hb
       clear HO_10
       clear HO_11
       clear BK694
       clear BK695
       clear HB
       have HO_10 := n0_
       have HO_11 := n1_
       have BK694 := n2_
       have BK695 := n3_
       have HB := n4_
       clear n0_ n1_ n2_ n3_ n4_
       (try clear hb)
       (try clear hb2)
       (try clear hk)
       (try clear hi)
       refine hK.out _ _ ⟨(blk_cell BK694.out 0).trans rfl, (blk_cell BK694.out 1).trans rfl, (blk_cell BK695.out 0).trans rfl, (blk_cell BK695.out 1).trans rfl⟩ (fun hHeld => ?_)
       clear hK K
       refine norm_ (a' := ?_) ?_ ?_
       rotate_left
       ·show Act.put _ (some 107) _ = _
        simp only [Act.put, List.setIfInBounds_toArray, List.set_cons_zero, List.set_cons_succ, i64_w, i32_w]
        rfl
       refine one_ (i := 6) (N := some 108) #[true, true, true, true, true, true, true, false] rfl rfl (one_of HT_.out (by kernel_rfl)) (by decide) (fun K hK => ?_)
       refine goes_ Try.func16 (by kernel_rfl) rfl #[.agg #[.float .f64 t701, .float .f64 t702], .agg #[.float .f64 t703, .float .f64 t704]] (by rfl) rfl rfl (by (try simp only [List.map_toArray, List.map_cons, List.map_nil]); first | done | rfl | (simp only [List.length_drop, List.length_take]; rfl)) ?_
       with_reducible refine (r05_SamePair.calls t701 t702 t703 t704 true _ A49.out).mono ?_
       rintro e w70 ⟨rfl, hb⟩
       refine ⟨_, rfl, ?_⟩
       have n0_ := Aside0.mk (Kd.R_below (rr_ HO_10) hb)
       have n1_ := Aside0.mk (Kd.R_below (rr_ HO_11) hb)
       have n2_ := kb_ BK694 hb
       have n3_ := kb_ BK695 hb
       have n4_ := bs_ HB hb
       clear HO_10
       clear HO_11
       clear BK694
       clear BK695
       clear HB
       have HO_10 := n0_
       have HO_11 := n1_
       have BK694 := n2_
       have BK695 := n3_
       have HB := n4_
       clear n0_ n1_ n2_ n3_ n4_
       (try clear hb)
       (try clear hb2)
       (try clear hk)
       (try clear hi)
       refine hK.out _ _ ⟨(blk_cell BK694.out 0).trans rfl, (blk_cell BK694.out 1).trans rfl, (blk_cell BK695.out 0).trans rfl, (blk_cell BK695.out 1).trans rfl⟩ (fun hHeld => ?_)
       clear hK K
       refine norm_ (a' := ?_) ?_ ?_
       rotate_left
       ·show Act.put _ (some 108) _ = _
        simp only [Act.put, List.setIfInBounds_toArray, List.set_cons_zero, List.set_cons_succ, i64_w, i32_w]
        rfl
       refine pure_ (i := 7) (N := some 22) (v := ?_) (a' := ?_) #[true, true, true, true, true, true, true, true] rfl rfl (any_of HT_.out (by kernel_rfl)) (fun _ _ _ h => h) (Or.inl ⟨by rfl, ?_⟩) ?_ ?_
       rotate_left
       ·intro w'
        go_simp
        with_reducible rfl
       rotate_left
       ·simp only [Act.put, List.setIfInBounds_toArray, List.set_cons_zero, List.set_cons_succ, i64_w, i32_w]
        rfl
       refine done_ (done_of HT_.out (by kernel_rfl)) ?_
       try go_wp2
       have n0_ := Aside0.mk (Kd.R_drew HO_10.out)
       have n1_ := Aside0.mk (Kd.R_drew HO_11.out)
       have n2_ := Aside0.mk (blk_drew BK694.out)
       have n3_ := Aside0.mk (blk_drew BK695.out)
       have n4_ := Aside0.mk (below_drew1 HB.out)
       clear HO_10
       clear HO_11
       clear BK694
       clear BK695
       clear HB
       have HO_10 := n0_
       have HO_11 := n1_
       have BK694 := n2_
       have BK695 := n3_
       have HB := n4_
       clear n0_ n1_ n2_ n3_ n4_
       refine start_ (n := 6) (S := fun w' => w'.cell? ⟨gb694, 0, none⟩ = some (.float .f64 a0) ∧ w'.cell? ⟨gb694, 1, none⟩ = some (.float .f64 a1)) (ds := []) #[false, false, false, false, false, false] (by kernel_rfl) rfl rfl ⟨(blk_cell BK694.out 0).trans rfl, (blk_cell BK694.out 1).trans rfl⟩ (fun hHeld => ?_)
       generalize w70.drew = w71 at HO_10 HO_11 BK694 BK695 HB hHeld ⊢
       refine take_ (i := 0) (N := some 109) (v := ?_) (a' := ?_) #[true, false, false, false, false, false] rfl rfl (by kernel_rfl) (fun _ _ _ h => h) (Or.inl ⟨by rfl, ?_⟩) hHeld ?_ ?_
       rotate_left
       ·rintro w' ⟨s0, s1⟩
        go_simp
        with_reducible rfl
       rotate_left
       ·simp only [Act.put, List.setIfInBounds_toArray, List.set_cons_zero, List.set_cons_succ, i64_w, i32_w]
        rfl
       refine take_ (i := 2) (N := some 111) (v := ?_) (a' := ?_) #[true, false, true, false, false, false] rfl rfl (by kernel_rfl) (fun _ _ _ h => h) (Or.inl ⟨by rfl, ?_⟩) hHeld ?_ ?_
       rotate_left
       ·rintro w' ⟨s0, s1⟩
        go_simp
        with_reducible rfl
       rotate_left
       ·simp only [Act.put, List.setIfInBounds_toArray, List.set_cons_zero, List.set_cons_succ, i64_w, i32_w]
        rfl
       refine one_ (i := 1) (N := some 110) #[true, true, true, false, false, false] rfl rfl (by kernel_rfl) (by decide) (fun K hK => ?_)
       refine goes_ Try.func27 (by kernel_rfl) rfl #[.agg #[.float .f64 a0, .float .f64 a1]] (by rfl) rfl rfl (by (try simp only [List.map_toArray, List.map_cons, List.map_nil]); first | done | rfl | (simp only [List.length_drop, List.length_take]; rfl)) ?_
       with_reducible refine (pair_Value.calls a0 a1 t706 _ A50.out).mono ?_
       rintro e w72 ⟨rfl, hb⟩
       refine ⟨_, rfl, ?_⟩
       have n0_ := Aside0.mk (Kd.R_below (rr_ HO_10) hb)
       have n1_ := Aside0.mk (Kd.R_below (rr_ HO_11) hb)
       have n2_ := kb_ BK694 hb
       have n3_ := kb_ BK695 hb
       have n4_ := bs_ HB hb
       clear HO_10
       clear HO_11
       clear BK694
       clear BK695
       clear HB
       have HO_10 := n0_
       have HO_11 := n1_
       have BK694 := n2_
       have BK695 := n3_
       have HB := n4_
       clear n0_ n1_ n2_ n3_ n4_
       (try clear hb)
       (try clear hb2)
       (try clear hk)
       (try clear hi)
       refine hK.out _ _ ⟨(blk_cell BK694.out 0).trans rfl, (blk_cell BK694.out 1).trans rfl⟩ (fun hHeld => ?_)
       clear hK K
       refine norm_ (a' := ?_) ?_ ?_
       rotate_left
       ·show Act.put _ (some 110) _ = _
        simp only [Act.put, List.setIfInBounds_toArray, List.set_cons_zero, List.set_cons_succ, i64_w, i32_w]
        rfl
       refine one_ (i := 3) (N := some 112) #[true, true, true, true, false, false] rfl rfl (by kernel_rfl) (by decide) (fun K hK => ?_)
       refine goes_ Try.func28 (by kernel_rfl) rfl #[.agg #[.float .f64 a0, .float .f64 a1]] (by rfl) rfl rfl (by (try simp only [List.map_toArray, List.map_cons, List.map_nil]); first | done | rfl | (simp only [List.length_drop, List.length_take]; rfl)) ?_
       with_reducible refine (r05_Value.calls k1 a0 a1 t707 _ A51.out).mono ?_
       rintro e w73 ⟨rfl, hb⟩
       refine ⟨_, rfl, ?_⟩
       have n0_ := Aside0.mk (Kd.R_below (rr_ HO_10) hb)
       have n1_ := Aside0.mk (Kd.R_below (rr_ HO_11) hb)
       have n2_ := kb_ BK694 hb
       have n3_ := kb_ BK695 hb
       have n4_ := bs_ HB hb
       clear HO_10
       clear HO_11
       clear BK694
       clear BK695
       clear HB
       have HO_10 := n0_
       have HO_11 := n1_
       have BK694 := n2_
       have BK695 := n3_
       have HB := n4_
       clear n0_ n1_ n2_ n3_ n4_
       (try clear hb)
       (try clear hb2)
       (try clear hk)
       (try clear hi)
       refine hK.out _ _ ⟨(blk_cell BK694.out 0).trans rfl, (blk_cell BK694.out 1).trans rfl⟩ (fun hHeld => ?_)
       clear hK K
       refine norm_ (a' := ?_) ?_ ?_
       rotate_left
       ·show Act.put _ (some 112) _ = _
        simp only [Act.put, List.setIfInBounds_toArray, List.set_cons_zero, List.set_cons_succ, i64_w, i32_w]
        rfl
       refine one_ (i := 4) (N := some 113) #[true, true, true, true, true, false] rfl rfl (by kernel_rfl) (by decide) (fun K hK => ?_)
       refine goes_ Try.func26 (by kernel_rfl) rfl #[.float .f64 t706, .float .f64 t707] (by rfl) rfl rfl (by (try simp only [List.map_toArray, List.map_cons, List.map_nil]); first | done | rfl | (simp only [List.length_drop, List.length_take]; rfl)) ?_
       with_reducible refine (r05_Same.calls t706 t707 t708 _ A52.out).mono ?_
       rintro e w' ⟨rfl, ⟨nd, rfl⟩⟩
       refine ⟨_, rfl, ?_⟩
       refine hK.out _ _ ⟨(blk_cell BK694.out 0).trans rfl, (blk_cell BK694.out 1).trans rfl⟩ (fun hHeld => ?_)
       clear hK K
       refine norm_ (a' := ?_) ?_ ?_
       rotate_left
       ·show Act.put _ (some 113) _ = _
        simp only [Act.put, List.setIfInBounds_toArray, List.set_cons_zero, List.set_cons_succ, i64_w, i32_w]
        rfl
       refine pure_ (i := 5) (N := some 23) (v := ?_) (a' := ?_) #[true, true, true, true, true, true] rfl rfl (by kernel_rfl) (fun _ _ _ h => h) (Or.inl ⟨by rfl, ?_⟩) ?_ ?_
       rotate_left
       ·intro w'
        go_simp
        with_reducible rfl
       rotate_left
       ·simp only [Act.put, List.setIfInBounds_toArray, List.set_cons_zero, List.set_cons_succ, i64_w, i32_w]
        rfl
       refine done_ (by kernel_rfl) ?_
       try go_wp2
       go_ret
       exact ⟨by first | rfl | (simp [errW_none, errW_some] <;> rfl) | (simp [*, errW_none, errW_some] <;> rfl), bl_ HB⟩
      ·replace c55 := Bool.eq_false_iff.mpr c55
       subst c55
       have H1 : (none) = some r := by rw [if_neg (show ¬ (false = true) by decide)] at H; exact H
       clear H
       have H := H1
       clear H1
       exact absurd H (by simp)
     ·replace c54 := Bool.eq_false_iff.mpr c54
      subst c54
      have H1 : (none) = some r := by rw [if_neg (show ¬ (false = true) by decide)] at H; exact H
      clear H
      have H := H1
      clear H1
      exact absurd H (by simp)
    ·replace c53 := Bool.eq_false_iff.mpr c53
     subst c53
     have H1 : (none) = some r := by rw [if_neg (show ¬ (false = true) by decide)] at H; exact H
     clear H
     have H := H1
     clear H1
     exact absurd H (by simp)

/-- THE ONE PURE STATEMENT of l05_PairSteps: yours. -/
def l05_PairSteps.Pure : Prop := ∀ (a0 : Nat) (a1 : Nat) (a2 : Nat) (a3 : Nat), (Lit.float .f64 a0).wf = true → (Lit.float .f64 a1).wf = true → (Lit.float .f64 a2).wf = true → (Lit.float .f64 a3).wf = true → ∃ k, l05_PairSteps.f k a0 a1 a2 a3 = some true

end Go.Proofs.Ytdemanikmaafeaa.Pr
