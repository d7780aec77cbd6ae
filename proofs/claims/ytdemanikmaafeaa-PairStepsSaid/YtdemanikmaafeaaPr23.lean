-- short
-- written by this session's own program (wip/fprint.py), which widens the kit's print by floats
import Derived.Test.YtdemanikmaafeaaPr0
import Derived.Test.YtdemanikmaafeaaPr22
namespace Go.Proofs.Ytdemanikmaafeaa.Pr
open Go.RowKit Go.Proofs.YtdemanikmaafeaaW.PrintWords Go.Proofs.YtdemanikmaafeaaW.PrintLast Go.Proofs.YtdemanikmaafeaaW.PrintMore
attribute [local go_sem] max2_int min2_int max_two min_two max_three min_three max_four min_four   -- for this text's walks alone
set_option linter.unusedVariables false
set_option linter.unusedSimpArgs false

/-! ### steelyardref05_Sum: function 17 -/
def steelyardref05_Sum.f (k : Nat) (a0 : Nat) (a1 : Nat) : Option (Nat × Nat) := (steelyardref05_Plus.f k a0 a1).bind fun t543 => ((steelyardref05_Minus.f k t543 a0).bind fun t544 => ((steelyardref05_Minus.f k t543 t544).bind fun t545 => ((steelyardref05_Minus.f k a0 t545).bind fun t546 => ((steelyardref05_Minus.f k a1 t544).bind fun t547 => ((steelyardref05_Plus.f k t546 t547).bind fun t548 => (some (t543, t548)))))))
theorem steelyardref05_Sum.mono : ∀ a0 a1 k, LeO (steelyardref05_Sum.f k a0 a1) (steelyardref05_Sum.f (k + 1) a0 a1) := by
 intro a0 a1 k
 unfold steelyardref05_Sum.f
 repeat' first
   | (with_reducible exact steelyardref05_Minus.mono _ _ _)
   | (with_reducible exact steelyardref05_Plus.mono _ _ _)
   | (with_reducible exact LeO.refl _)
   | (with_reducible exact LeO.none _)
   | (with_reducible refine LeO.ite ?_ ?_)
   | (with_reducible refine LeO.bind ?_ (fun _ => ?_))
   | exact steelyardref05_Minus.mono _ _ _
   | exact steelyardref05_Plus.mono _ _ _
   | exact LeO.none _
   | refine LeO.ite ?_ ?_
   | refine LeO.bind ?_ (fun _ => ?_)
set_option maxHeartbeats 3000000 in
set_option maxRecDepth 100000 in
theorem steelyardref05_Sum.calls (k : Nat) (a0 : Nat) (a1 : Nat) (r1 : Nat) (r2 : Nat) (w : World) (h : steelyardref05_Sum.f k a0 a1 = some (r1, r2)) :
  Calls Try.prog 17 #[.float .f64 a0, .float .f64 a1] w fun e w' => e = .returned (.agg #[.float .f64 r1, .float .f64 r2]) ∧ Below w.heap.size w w' := by
 have hu30 := Try.underlying30
 have HB := Aside0.mk (Below.refl w.heap.size w)
 have H : ((steelyardref05_Plus.f k a0 a1).bind fun t543 => ((steelyardref05_Minus.f k t543 a0).bind fun t544 => ((steelyardref05_Minus.f k t543 t544).bind fun t545 => ((steelyardref05_Minus.f k a0 t545).bind fun t546 => ((steelyardref05_Minus.f k a1 t544).bind fun t547 => ((steelyardref05_Plus.f k t546 t547).bind fun t548 => (some (t543, t548)))))))) = some (r1, r2) := h
 clear h
 obtain ⟨t543, A3, H⟩ := ob_ H
 try dsimp only at H
 obtain ⟨t544, A4, H⟩ := ob_ H
 try dsimp only at H
 obtain ⟨t545, A5, H⟩ := ob_ H
 try dsimp only at H
 obtain ⟨t546, A6, H⟩ := ob_ H
 try dsimp only at H
 obtain ⟨t547, A7, H⟩ := ob_ H
 try dsimp only at H
 obtain ⟨t548, A8, H⟩ := ob_ H
 try dsimp only at H
 simp only [Option.some.injEq, Prod.mk.injEq] at H
 obtain ⟨rfl, rfl⟩ := H
 go_enter Try.func17, Try.ntmps17
 go_wp2_with (first | ((with_reducible refine gate_dst (N := 4) rfl ?_); refine box_event ?hg (N := 4) ?hd (cs := #[.float .f64 0, .float .f64 0]) (t := 30) ?hr ?_; (case hd => rfl); (case hg => rfl); (case hr => first | (go_simp; done) | (go_simp; rfl)); intro gb542 hg w9 hbox hb; have n0_ := bs_ HB hb; have n1_ := Aside0.mk (hbox); have n2_ := ge_ HB hg; have n3_ := ge_ HB hg; clear HB; have HB := n0_; have BK542 := n1_; have GW542 := n2_; have GE542 := n3_; clear n0_ n1_ n2_ n3_; clear hb hbox hg) | ((with_reducible refine gate_callee (f := 43) rfl ?_); refine goesM (some 13) Try.func43 #[.float .f64 a0, .float .f64 a1] ?_; (with_reducible refine (steelyardref05_Plus.calls k a0 a1 t543 _ A3.out).mono ?_); rintro e w10 ⟨rfl, hb⟩; refine ⟨_, rfl, ?_⟩; have n0_ := kb_ BK542 hb; have n1_ := bs_ HB hb; clear BK542; clear HB; have BK542 := n0_; have HB := n1_; clear n0_ n1_; (try clear hb); (try clear hb2); (try clear hk); (try clear hi)) | ((with_reducible refine gate_callee (f := 44) rfl ?_); refine goesM (some 16) Try.func44 #[.float .f64 t543, .float .f64 a0] ?_; (with_reducible refine (steelyardref05_Minus.calls k t543 a0 t544 _ A4.out).mono ?_); rintro e w11 ⟨rfl, hb⟩; refine ⟨_, rfl, ?_⟩; have n0_ := kb_ BK542 hb; have n1_ := bs_ HB hb; clear BK542; clear HB; have BK542 := n0_; have HB := n1_; clear n0_ n1_; (try clear hb); (try clear hb2); (try clear hk); (try clear hi)) | ((with_reducible refine gate_callee (f := 44) rfl ?_); refine goesM (some 19) Try.func44 #[.float .f64 t543, .float .f64 t544] ?_; (with_reducible refine (steelyardref05_Minus.calls k t543 t544 t545 _ A5.out).mono ?_); rintro e w12 ⟨rfl, hb⟩; refine ⟨_, rfl, ?_⟩; have n0_ := kb_ BK542 hb; have n1_ := bs_ HB hb; clear BK542; clear HB; have BK542 := n0_; have HB := n1_; clear n0_ n1_; (try clear hb); (try clear hb2); (try clear hk); (try clear hi)) | ((with_reducible refine gate_callee (f := 44) rfl ?_); refine goesM (some 22) Try.func44 #[.float .f64 a0, .float .f64 t545] ?_; (with_reducible refine (steelyardref05_Minus.calls k a0 t545 t546 _ A6.out).mono ?_); rintro e w13 ⟨rfl, hb⟩; refine ⟨_, rfl, ?_⟩; have n0_ := kb_ BK542 hb; have n1_ := bs_ HB hb; clear BK542; clear HB; have BK542 := n0_; have HB := n1_; clear n0_ n1_; (try clear hb); (try clear hb2); (try clear hk); (try clear hi)) | ((with_reducible refine gate_callee (f := 44) rfl ?_); refine goesM (some 25) Try.func44 #[.float .f64 a1, .float .f64 t544] ?_; (with_reducible refine (steelyardref05_Minus.calls k a1 t544 t547 _ A7.out).mono ?_); rintro e w14 ⟨rfl, hb⟩; refine ⟨_, rfl, ?_⟩; have n0_ := kb_ BK542 hb; have n1_ := bs_ HB hb; clear BK542; clear HB; have BK542 := n0_; have HB := n1_; clear n0_ n1_; (try clear hb); (try clear hb2); (try clear hk); (try clear hi)) | ((with_reducible refine gate_callee (f := 43) rfl ?_); refine goesM (some 28) Try.func43 #[.float .f64 t546, .float .f64 t547] ?_; (with_reducible refine (steelyardref05_Plus.calls k t546 t547 t548 _ A8.out).mono ?_); rintro e w15 ⟨rfl, hb⟩; refine ⟨_, rfl, ?_⟩; have n0_ := kb_ BK542 hb; have n1_ := bs_ HB hb; clear BK542; clear HB; have BK542 := n0_; have HB := n1_; clear n0_ n1_; (try clear hb); (try clear hb2); (try clear hk); (try clear hi); have hcz16_0 : w15.cell? ⟨gb542, 0, none⟩ = some (.float .f64 0) := (blk_cell BK542.out 0).trans rfl; have hcz16_1 : w15.cell? ⟨gb542, 1, none⟩ = some (.float .f64 0) := (blk_cell BK542.out 1).trans rfl; have hfz16_0 := blk_frozen BK542.out 0; have hfz16_1 := blk_frozen BK542.out 1))
 refine bodyPost_ret (results_cell_row rfl _ _ gb542 30 #[.float .f64 t543, .float .f64 t548] (0, 0) _ rfl (by (with_reducible repeat (first | apply bN | apply bD | apply bA)); refine blk_put (cs := #[.float .f64 t543, .float .f64 0]) ?_ 1 _ rfl; (with_reducible repeat (first | apply bN | apply bD | apply bA)); refine blk_put (cs := #[.float .f64 0, .float .f64 0]) ?_ 0 _ rfl; (with_reducible repeat (first | apply bN | apply bD | apply bA)); exact BK542.out) Try.underlying30 rfl (by kernel_rfl)) rfl ?_
 exact ⟨by first | rfl | (simp [errW_none, errW_some] <;> rfl) | (simp [*, errW_none, errW_some] <;> rfl), bl_ HB⟩

/-! ### steelyardref05_Quick: function 19 -/
def steelyardref05_Quick.f (k : Nat) (a0 : Nat) (a1 : Nat) : Option (Nat × Nat) := (steelyardref05_Plus.f k a0 a1).bind fun t550 => ((steelyardref05_Minus.f k t550 a0).bind fun t551 => ((steelyardref05_Minus.f k a1 t551).bind fun t552 => (some (t550, t552))))
theorem steelyardref05_Quick.mono : ∀ a0 a1 k, LeO (steelyardref05_Quick.f k a0 a1) (steelyardref05_Quick.f (k + 1) a0 a1) := by
 intro a0 a1 k
 unfold steelyardref05_Quick.f
 repeat' first
   | (with_reducible exact steelyardref05_Minus.mono _ _ _)
   | (with_reducible exact steelyardref05_Plus.mono _ _ _)
   | (with_reducible exact LeO.refl _)
   | (with_reducible exact LeO.none _)
   | (with_reducible refine LeO.ite ?_ ?_)
   | (with_reducible refine LeO.bind ?_ (fun _ => ?_))
   | exact steelyardref05_Minus.mono _ _ _
   | exact steelyardref05_Plus.mono _ _ _
   | exact LeO.none _
   | refine LeO.ite ?_ ?_
   | refine LeO.bind ?_ (fun _ => ?_)
set_option maxHeartbeats 3000000 in
set_option maxRecDepth 100000 in
theorem steelyardref05_Quick.calls (k : Nat) (a0 : Nat) (a1 : Nat) (r1 : Nat) (r2 : Nat) (w : World) (h : steelyardref05_Quick.f k a0 a1 = some (r1, r2)) :
  Calls Try.prog 19 #[.float .f64 a0, .float .f64 a1] w fun e w' => e = .returned (.agg #[.float .f64 r1, .float .f64 r2]) ∧ Below w.heap.size w w' := by
 have hu30 := Try.underlying30
 have HB := Aside0.mk (Below.refl w.heap.size w)
 have H : ((steelyardref05_Plus.f k a0 a1).bind fun t550 => ((steelyardref05_Minus.f k t550 a0).bind fun t551 => ((steelyardref05_Minus.f k a1 t551).bind fun t552 => (some (t550, t552))))) = some (r1, r2) := h
 clear h
 obtain ⟨t550, A3, H⟩ := ob_ H
 try dsimp only at H
 obtain ⟨t551, A4, H⟩ := ob_ H
 try dsimp only at H
 obtain ⟨t552, A5, H⟩ := ob_ H
 try dsimp only at H
 simp only [Option.some.injEq, Prod.mk.injEq] at H
 obtain ⟨rfl, rfl⟩ := H
 go_enter Try.func19, Try.ntmps19
 go_wp2_with (first | ((with_reducible refine gate_dst (N := 4) rfl ?_); refine box_event ?hg (N := 4) ?hd (cs := #[.float .f64 0, .float .f64 0]) (t := 30) ?hr ?_; (case hd => rfl); (case hg => rfl); (case hr => first | (go_simp; done) | (go_simp; rfl)); intro gb549 hg w6 hbox hb; have n0_ := bs_ HB hb; have n1_ := Aside0.mk (hbox); have n2_ := ge_ HB hg; have n3_ := ge_ HB hg; clear HB; have HB := n0_; have BK549 := n1_; have GW549 := n2_; have GE549 := n3_; clear n0_ n1_ n2_ n3_; clear hb hbox hg) | ((with_reducible refine gate_callee (f := 43) rfl ?_); refine goesM (some 10) Try.func43 #[.float .f64 a0, .float .f64 a1] ?_; (with_reducible refine (steelyardref05_Plus.calls k a0 a1 t550 _ A3.out).mono ?_); rintro e w7 ⟨rfl, hb⟩; refine ⟨_, rfl, ?_⟩; have n0_ := kb_ BK549 hb; have n1_ := bs_ HB hb; clear BK549; clear HB; have BK549 := n0_; have HB := n1_; clear n0_ n1_; (try clear hb); (try clear hb2); (try clear hk); (try clear hi)) | ((with_reducible refine gate_callee (f := 44) rfl ?_); refine goesM (some 13) Try.func44 #[.float .f64 t550, .float .f64 a0] ?_; (with_reducible refine (steelyardref05_Minus.calls k t550 a0 t551 _ A4.out).mono ?_); rintro e w8 ⟨rfl, hb⟩; refine ⟨_, rfl, ?_⟩; have n0_ := kb_ BK549 hb; have n1_ := bs_ HB hb; clear BK549; clear HB; have BK549 := n0_; have HB := n1_; clear n0_ n1_; (try clear hb); (try clear hb2); (try clear hk); (try clear hi)) | ((with_reducible refine gate_callee (f := 44) rfl ?_); refine goesM (some 16) Try.func44 #[.float .f64 a1, .float .f64 t551] ?_; (with_reducible refine (steelyardref05_Minus.calls k a1 t551 t552 _ A5.out).mono ?_); rintro e w9 ⟨rfl, hb⟩; refine ⟨_, rfl, ?_⟩; have n0_ := kb_ BK549 hb; have n1_ := bs_ HB hb; clear BK549; clear HB; have BK549 := n0_; have HB := n1_; clear n0_ n1_; (try clear hb); (try clear hb2); (try clear hk); (try clear hi); have hcz10_0 : w9.cell? ⟨gb549, 0, none⟩ = some (.float .f64 0) := (blk_cell BK549.out 0).trans rfl; have hcz10_1 : w9.cell? ⟨gb549, 1, none⟩ = some (.float .f64 0) := (blk_cell BK549.out 1).trans rfl; have hfz10_0 := blk_frozen BK549.out 0; have hfz10_1 := blk_frozen BK549.out 1))
 refine bodyPost_ret (results_cell_row rfl _ _ gb549 30 #[.float .f64 t550, .float .f64 t552] (0, 0) _ rfl (by (with_reducible repeat (first | apply bN | apply bD | apply bA)); refine blk_put (cs := #[.float .f64 t550, .float .f64 0]) ?_ 1 _ rfl; (with_reducible repeat (first | apply bN | apply bD | apply bA)); refine blk_put (cs := #[.float .f64 0, .float .f64 0]) ?_ 0 _ rfl; (with_reducible repeat (first | apply bN | apply bD | apply bA)); exact BK549.out) Try.underlying30 rfl (by kernel_rfl)) rfl ?_
 exact ⟨by first | rfl | (simp [errW_none, errW_some] <;> rfl) | (simp [*, errW_none, errW_some] <;> rfl), bl_ HB⟩

end Go.Proofs.Ytdemanikmaafeaa.Pr
