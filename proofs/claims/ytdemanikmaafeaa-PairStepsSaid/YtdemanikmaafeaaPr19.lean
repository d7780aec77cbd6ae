-- short
-- written by this session's own program (wip/fprint.py), which widens the kit's print by floats
import Derived.Test.YtdemanikmaafeaaPr0
import Derived.Test.YtdemanikmaafeaaPr7
import Derived.Test.YtdemanikmaafeaaPr11
import Derived.Test.YtdemanikmaafeaaPr14
import Derived.Test.YtdemanikmaafeaaPr16
import Derived.Test.YtdemanikmaafeaaPr18
namespace Go.Proofs.Ytdemanikmaafeaa.Pr
open Go.RowKit Go.Proofs.YtdemanikmaafeaaW.PrintWords Go.Proofs.YtdemanikmaafeaaW.PrintLast Go.Proofs.YtdemanikmaafeaaW.PrintMore
attribute [local go_sem] max2_int min2_int max_two min_two max_three min_three max_four min_four   -- for this text's walks alone
set_option linter.unusedVariables false
set_option linter.unusedSimpArgs false

/-! ### steelyardref03_Size_below: function 85 -/
def steelyardref03_Size_below.l0 : Nat → List Int → Int → Int → Int → Int → Int → Int → Option (Int)
 | 0, _, _, _, _, _, _, _ => none
 | k + 1, x1, x2, x7, x8, x459000, x459001, x459002 => if (IntKind.u64.wrap (x8 - x7)) > 1 then ((steelyardref03_Size_Number.f k x459000 x459001 x459002 (IntKind.u64.wrap (Int.tdiv (IntKind.u64.wrap (x7 + x8)) 2))).bind fun bt459 => ((steelyardref03_Against.f k bt459.1 bt459.2 x1 x2).bind fun t463 => (if t463 ≤ 0 then (steelyardref03_Size_below.l0 k x1 x2 (IntKind.u64.wrap (Int.tdiv (IntKind.u64.wrap (x7 + x8)) 2)) x8 x459000 x459001 x459002) else (steelyardref03_Size_below.l0 k x1 x2 x7 (IntKind.u64.wrap (Int.tdiv (IntKind.u64.wrap (x7 + x8)) 2)) x459000 x459001 x459002)))) else (some x7)
def steelyardref03_Size_below.f (k : Nat) (a0_0 : Int) (a0_1 : Int) (a0_2 : Int) (l1 : List Int) (a2 : Int) : Option (Int) := steelyardref03_Size_below.l0 k l1 a2 0 a0_2 a0_0 a0_1 a0_2
theorem steelyardref03_Size_below.mono_l : ∀ k, (∀ y0 y1 y2 y3 y4 y5 y6, LeO (steelyardref03_Size_below.l0 k y0 y1 y2 y3 y4 y5 y6) (steelyardref03_Size_below.l0 (k + 1) y0 y1 y2 y3 y4 y5 y6))
 | 0 => fun _ _ _ _ _ _ _ r h => by simp [steelyardref03_Size_below.l0] at h
 | k + 1 => by
  have ih0 := steelyardref03_Size_below.mono_l k
  ·intro y0 y1 y2 y3 y4 y5 y6
   unfold steelyardref03_Size_below.l0
   repeat' first
   | (with_reducible exact ih0 _ _ _ _ _ _ _)
   | (with_reducible exact steelyardref03_Against.mono _ _ _ _ _)
   | (with_reducible exact steelyardref03_Size_Number.mono _ _ _ _ _)
   | (with_reducible exact LeO.refl _)
   | (with_reducible exact LeO.none _)
   | (with_reducible refine LeO.ite ?_ ?_)
   | (with_reducible refine LeO.bind ?_ (fun _ => ?_))
   | exact ih0 _ _ _ _ _ _ _
   | exact steelyardref03_Against.mono _ _ _ _ _
   | exact steelyardref03_Size_Number.mono _ _ _ _ _
   | exact LeO.none _
   | refine LeO.ite ?_ ?_
   | refine LeO.bind ?_ (fun _ => ?_)
theorem steelyardref03_Size_below.mono : ∀ a0 a1 a2 a3 a4 k, LeO (steelyardref03_Size_below.f k a0 a1 a2 a3 a4) (steelyardref03_Size_below.f (k + 1) a0 a1 a2 a3 a4) := by
 intro a0 a1 a2 a3 a4 k
 have ih0 := steelyardref03_Size_below.mono_l k
 unfold steelyardref03_Size_below.f
 repeat' first
   | (with_reducible exact ih0 _ _ _ _ _ _ _)
   | (with_reducible exact steelyardref03_Against.mono _ _ _ _ _)
   | (with_reducible exact steelyardref03_Size_Number.mono _ _ _ _ _)
   | (with_reducible exact LeO.refl _)
   | (with_reducible exact LeO.none _)
   | (with_reducible refine LeO.ite ?_ ?_)
   | (with_reducible refine LeO.bind ?_ (fun _ => ?_))
   | exact ih0 _ _ _ _ _ _ _
   | exact steelyardref03_Against.mono _ _ _ _ _
   | exact steelyardref03_Size_Number.mono _ _ _ _ _
   | exact LeO.none _
   | refine LeO.ite ?_ ?_
   | refine LeO.bind ?_ (fun _ => ?_)
set_option maxHeartbeats 3000000 in
set_option maxRecDepth 100000 in
theorem steelyardref03_Size_below.calls (k : Nat) (a0_0 : Int) (a0_1 : Int) (a0_2 : Int) (A1 : Option Addr) (c1 : Nat) (l1 : List Int) (a2 : Int) (r : Int) (w : World) (hr1 : Kd.C (Kd.int .u32) w A1 l1.length l1) (hc1 : l1.length ≤ c1) (h : steelyardref03_Size_below.f k a0_0 a0_1 a0_2 l1 a2 = some r) :
  Calls Try.prog 85 #[.agg #[.int .i64 a0_0, .int .i64 a0_1, .int .u64 a0_2], .slice A1 l1.length c1, .int .i64 a2] w fun e w' => e = .returned (.int .u64 r) ∧ Below w.heap.size w w' := by
 have hu83 := Try.underlying83
 have HR1 := Aside0.mk hr1
 have HC1 := Aside0.mk hc1
 clear hr1 hc1
 have HB := Aside0.mk (Below.refl w.heap.size w)
 have H : (steelyardref03_Size_below.l0 k l1 a2 0 a0_2 a0_0 a0_1 a0_2) = some r := h
 clear h
 have H' := Aside0.mk H
 clear H
 go_enter Try.func85, Try.ntmps85
 go_wp2_with (first | ((with_reducible refine gate_dst (N := 3) rfl ?_); refine box_event ?hg (N := 3) ?hd (cs := #[.int .i64 a0_0, .int .i64 a0_1, .int .u64 a0_2]) (t := 83) ?hr ?_; (case hd => rfl); (case hg => rfl); (case hr => first | (go_simp; done) | (go_simp; rfl)); intro gb458 hg w4 hbox hb; have n0_ := bs_ HB hb; have n1_ := Aside0.mk (hbox); have n2_ := ge_ HB hg; have n3_ := ge_ HB hg; clear HB; have HB := n0_; have BK458 := n1_; have GW458 := n2_; have GE458 := n3_; clear n0_ n1_ n2_ n3_; clear hb hbox hg; have hcz5_0 : w4.cell? ⟨gb458, 0, none⟩ = some (.int .i64 a0_0) := (blk_cell BK458.out 0).trans rfl; have hcz5_1 : w4.cell? ⟨gb458, 1, none⟩ = some (.int .i64 a0_1) := (blk_cell BK458.out 1).trans rfl; have hcz5_2 : w4.cell? ⟨gb458, 2, none⟩ = some (.int .u64 a0_2) := (blk_cell BK458.out 2).trans rfl; have hfz5_0 := blk_frozen BK458.out 0; have hfz5_1 := blk_frozen BK458.out 1; have hfz5_2 := blk_frozen BK458.out 2))
 go_loopg [7, 8] k (fun kq v7 v8 w' => ∃ (x7_1 : Int) (x8_1 : Int), v7 = .int .u64 x7_1 ∧ v8 = .int .u64 x8_1 ∧ Aside0 (steelyardref03_Size_below.l0 kq l1 a2 x7_1 x8_1 a0_0 a0_1 a0_2 = some r) ∧ Aside0 (kq ≤ k) ∧ Aside0 (w'.heap[gb458]? = some (.cells #[.int .i64 a0_0, .int .i64 a0_1, .int .u64 a0_2] 83 (0, 0))) ∧ Aside0 (Below w.heap.size w w'))
 case atStart => exact ⟨(0), (a0_2), (by first | rfl | (simp; done) | (simp [*]; done)), (by first | rfl | (simp; done) | (simp [*]; done)), H', ⟨Nat.le_refl _⟩, ⟨by (with_reducible repeat (first | apply bN | apply bD | apply bA)); exact BK458.out⟩, ⟨bl_ HB⟩⟩
 case round =>
  clear H'
  try clear c1
  try clear p2
  try clear hcz5_0
  try clear hcz5_1
  try clear hcz5_2
  try clear hfz5_0
  try clear hfz5_1
  try clear hfz5_2
  obtain ⟨x7_1, x8_1, rfl, rfl, HA, HK1, BK458, HB⟩ := hrel
  cases gk with
  | zero => exact absurd HA.out (by simp [steelyardref03_Size_below.l0])
  | succ k1 =>
   have H := HA.out
   clear HA
   simp only [steelyardref03_Size_below.l0] at H
   by_cases c6 : (IntKind.u64.wrap (x8_1 - x7_1)) > 1
   ·rw [if_pos c6] at H
    have c6b0 : decide (1 < (IntKind.u64.wrap (x8_1 - x7_1))) = true := decide_eq_true c6
    clear c6
    obtain ⟨⟨t459, t462⟩, A7, H⟩ := ob_ H
    try dsimp only at H
    obtain ⟨t463, A8, H⟩ := ob_ H
    try dsimp only at H
    by_cases c9 : t463 ≤ 0
    ·rw [if_pos c9] at H
     have c9b0 : decide (t463 ≤ 0) = true := decide_eq_true c9
     clear c9
     have H' := Aside0.mk H
     clear H
     have hcz10_0 : wr.cell? ⟨gb458, 0, none⟩ = some (.int .i64 a0_0) := (blk_cell BK458.out 0).trans rfl
     have hcz10_1 : wr.cell? ⟨gb458, 1, none⟩ = some (.int .i64 a0_1) := (blk_cell BK458.out 1).trans rfl
     have hcz10_2 : wr.cell? ⟨gb458, 2, none⟩ = some (.int .u64 a0_2) := (blk_cell BK458.out 2).trans rfl
     have hfz10_0 := blk_frozen BK458.out 0
     have hfz10_1 := blk_frozen BK458.out 1
     have hfz10_2 := blk_frozen BK458.out 2
     go_wp2_with (first | ((with_reducible refine gate_callee (f := 82) rfl ?_); refine goesM (some 25) Try.func82 #[.agg #[.int .i64 a0_0, .int .i64 a0_1, .int .u64 a0_2], .int .u64 (IntKind.u64.wrap (Int.tdiv (IntKind.u64.wrap (x7_1 + x8_1)) 2))] ?_; (with_reducible refine (steelyardref03_Size_Number.calls k1 a0_0 a0_1 a0_2 (IntKind.u64.wrap (Int.tdiv (IntKind.u64.wrap (x7_1 + x8_1)) 2)) t459 t462 _ A7.out).mono ?_); rintro e w11 ⟨v460, rfl, ho0, hb⟩; refine ⟨_, rfl, ?_⟩; have n0_ := Aside0.mk (Kd.R_lower ho0 (below_size (bl_ HB))); have n1_ := kb_ BK458 hb; have n2_ := bs_ HB hb; clear BK458; clear HB; have HO461 := n0_; have BK458 := n1_; have HB := n2_; clear n0_ n1_ n2_; (try clear hb); (try clear hb2); (try clear hk); (try clear hi); (try clear ho0); obtain ⟨Ao12, co12, eo12⟩ := Kd.R_slice HO461.out; subst eo12) | ((with_reducible refine gate_callee (f := 74) rfl ?_); refine goesM (some 32) Try.func74 #[.slice Ao12 t459.length co12, .int .i64 t462, .slice A1 l1.length c1, .int .i64 a2] ?_; (with_reducible refine (steelyardref03_Against.calls k1 _ _ t459 t462 _ _ l1 a2 t463 _ ?side1 ?side2 ?side3 ?side4 A8.out).mono ?_); (case side1 => repeat (first | exact (Kd.R_reads' HO461.out).2.2 | (with_reducible first | apply cA | apply cN | apply cD))); (case side2 => exact (Kd.R_reads' HO461.out).2.1); (case side3 => repeat (first | exact (Kd.C_below HR1.out HB.out) | (with_reducible first | apply cA | apply cN | apply cD))); (case side4 => exact HC1.out); rintro e w13 ⟨rfl, hb⟩; refine ⟨_, rfl, ?_⟩; have n0_ := Aside0.mk (Kd.R_below (by (with_reducible repeat (first | apply rA | apply rN | apply rD)); exact HO461.out) hb); have n1_ := kb_ BK458 hb; have n2_ := bs_ HB hb; clear HO461; clear BK458; clear HB; have HO461 := n0_; have BK458 := n1_; have HB := n2_; clear n0_ n1_ n2_; (try clear hb); (try clear hb2); (try clear hk); (try clear hi)))
     go_roundg k1
     case measure => have := HK1.out; omega
     case rel => exact ⟨(IntKind.u64.wrap (Int.tdiv (IntKind.u64.wrap (x7_1 + x8_1)) 2)), (x8_1), (by first | rfl | (simp; done) | (simp [*]; done)), (by first | rfl | (simp; done) | (simp [*]; done)), H', ⟨by have := HK1.out; omega⟩, ⟨by (with_reducible repeat (first | apply bN | apply bD | apply bA)); exact BK458.out⟩, ⟨bl_ HB⟩⟩
    ·rw [if_neg c9] at H
     have c9b0 : decide (t463 ≤ 0) = false := decide_eq_false c9
     clear c9
     have H' := Aside0.mk H
     clear H
     have hcz14_0 : wr.cell? ⟨gb458, 0, none⟩ = some (.int .i64 a0_0) := (blk_cell BK458.out 0).trans rfl
     have hcz14_1 : wr.cell? ⟨gb458, 1, none⟩ = some (.int .i64 a0_1) := (blk_cell BK458.out 1).trans rfl
     have hcz14_2 : wr.cell? ⟨gb458, 2, none⟩ = some (.int .u64 a0_2) := (blk_cell BK458.out 2).trans rfl
     have hfz14_0 := blk_frozen BK458.out 0
     have hfz14_1 := blk_frozen BK458.out 1
     have hfz14_2 := blk_frozen BK458.out 2
     go_wp2_with (first | ((with_reducible refine gate_callee (f := 82) rfl ?_); refine goesM (some 25) Try.func82 #[.agg #[.int .i64 a0_0, .int .i64 a0_1, .int .u64 a0_2], .int .u64 (IntKind.u64.wrap (Int.tdiv (IntKind.u64.wrap (x7_1 + x8_1)) 2))] ?_; (with_reducible refine (steelyardref03_Size_Number.calls k1 a0_0 a0_1 a0_2 (IntKind.u64.wrap (Int.tdiv (IntKind.u64.wrap (x7_1 + x8_1)) 2)) t459 t462 _ A7.out).mono ?_); rintro e w15 ⟨v460, rfl, ho0, hb⟩; refine ⟨_, rfl, ?_⟩; have n0_ := Aside0.mk (Kd.R_lower ho0 (below_size (bl_ HB))); have n1_ := kb_ BK458 hb; have n2_ := bs_ HB hb; clear BK458; clear HB; have HO461 := n0_; have BK458 := n1_; have HB := n2_; clear n0_ n1_ n2_; (try clear hb); (try clear hb2); (try clear hk); (try clear hi); (try clear ho0); obtain ⟨Ao16, co16, eo16⟩ := Kd.R_slice HO461.out; subst eo16) | ((with_reducible refine gate_callee (f := 74) rfl ?_); refine goesM (some 32) Try.func74 #[.slice Ao16 t459.length co16, .int .i64 t462, .slice A1 l1.length c1, .int .i64 a2] ?_; (with_reducible refine (steelyardref03_Against.calls k1 _ _ t459 t462 _ _ l1 a2 t463 _ ?side1 ?side2 ?side3 ?side4 A8.out).mono ?_); (case side1 => repeat (first | exact (Kd.R_reads' HO461.out).2.2 | (with_reducible first | apply cA | apply cN | apply cD))); (case side2 => exact (Kd.R_reads' HO461.out).2.1); (case side3 => repeat (first | exact (Kd.C_below HR1.out HB.out) | (with_reducible first | apply cA | apply cN | apply cD))); (case side4 => exact HC1.out); rintro e w17 ⟨rfl, hb⟩; refine ⟨_, rfl, ?_⟩; have n0_ := Aside0.mk (Kd.R_below (by (with_reducible repeat (first | apply rA | apply rN | apply rD)); exact HO461.out) hb); have n1_ := kb_ BK458 hb; have n2_ := bs_ HB hb; clear HO461; clear BK458; clear HB; have HO461 := n0_; have BK458 := n1_; have HB := n2_; clear n0_ n1_ n2_; (try clear hb); (try clear hb2); (try clear hk); (try clear hi)))
     go_roundg k1
     case measure => have := HK1.out; omega
     case rel => exact ⟨(x7_1), (IntKind.u64.wrap (Int.tdiv (IntKind.u64.wrap (x7_1 + x8_1)) 2)), (by first | rfl | (simp; done) | (simp [*]; done)), (by first | rfl | (simp; done) | (simp [*]; done)), H', ⟨by have := HK1.out; omega⟩, ⟨by (with_reducible repeat (first | apply bN | apply bD | apply bA)); exact BK458.out⟩, ⟨bl_ HB⟩⟩
   ·rw [if_neg c6] at H
    have c6b0 : decide (1 < (IntKind.u64.wrap (x8_1 - x7_1))) = false := decide_eq_false c6
    clear c6
    obtain rfl := Option.some.inj H
    go_wp2
    go_ret
    exact ⟨by first | rfl | (simp [errW_none, errW_some] <;> rfl) | (simp [*, errW_none, errW_some] <;> rfl), bl_ HB⟩

/-! ### steelyardref03_Size_half: function 86 -/
def steelyardref03_Size_half.f (k : Nat) (a0_0 : Int) (a0_1 : Int) (a0_2 : Int) (a1 : Int) (l2 : List Int) (a3 : Int) : Option (Int) := (steelyardref03_Size_Number.f k a0_0 a0_1 a0_2 a1).bind fun bt465 => ((steelyardref03_Size_Number.f k a0_0 a0_1 a0_2 (IntKind.u64.wrap (a1 + 1))).bind fun bt469 => (if bt469.2 < bt465.2 then (some 0) else ((steelyardref02_Moved.f k bt469.1 (wrap64 (bt469.2 - bt465.2))).bind fun t473 => ((steelyardref02_Plus.f k bt465.1 t473).bind fun t476 => ((steelyardref02_Times.f k l2 (([2] : List Int))).bind fun t482 => ((steelyardref03_Against.f k t482 a3 t476 bt465.2).bind fun t485 => (some t485)))))))
theorem steelyardref03_Size_half.mono : ∀ a0 a1 a2 a3 a4 a5 k, LeO (steelyardref03_Size_half.f k a0 a1 a2 a3 a4 a5) (steelyardref03_Size_half.f (k + 1) a0 a1 a2 a3 a4 a5) := by
 intro a0 a1 a2 a3 a4 a5 k
 unfold steelyardref03_Size_half.f
 repeat' first
   | (with_reducible exact steelyardref02_Moved.mono _ _ _)
   | (with_reducible exact steelyardref02_Plus.mono _ _ _)
   | (with_reducible exact steelyardref02_Times.mono _ _ _)
   | (with_reducible exact steelyardref03_Against.mono _ _ _ _ _)
   | (with_reducible exact steelyardref03_Size_Number.mono _ _ _ _ _)
   | (with_reducible exact LeO.refl _)
   | (with_reducible exact LeO.none _)
   | (with_reducible refine LeO.ite ?_ ?_)
   | (with_reducible refine LeO.bind ?_ (fun _ => ?_))
   | exact steelyardref02_Moved.mono _ _ _
   | exact steelyardref02_Plus.mono _ _ _
   | exact steelyardref02_Times.mono _ _ _
   | exact steelyardref03_Against.mono _ _ _ _ _
   | exact steelyardref03_Size_Number.mono _ _ _ _ _
   | exact LeO.none _
   | refine LeO.ite ?_ ?_
   | refine LeO.bind ?_ (fun _ => ?_)
set_option maxHeartbeats 3000000 in
set_option maxRecDepth 100000 in
theorem steelyardref03_Size_half.calls (k : Nat) (a0_0 : Int) (a0_1 : Int) (a0_2 : Int) (a1 : Int) (A2 : Option Addr) (c2 : Nat) (l2 : List Int) (a3 : Int) (r : Int) (w : World) (hr2 : Kd.C (Kd.int .u32) w A2 l2.length l2) (hc2 : l2.length ≤ c2) (h : steelyardref03_Size_half.f k a0_0 a0_1 a0_2 a1 l2 a3 = some r) :
  Calls Try.prog 86 #[.agg #[.int .i64 a0_0, .int .i64 a0_1, .int .u64 a0_2], .int .u64 a1, .slice A2 l2.length c2, .int .i64 a3] w fun e w' => e = .returned (.int .i64 r) ∧ Below w.heap.size w w' := by
 have hu83 := Try.underlying83
 have HR2 := Aside0.mk hr2
 have HC2 := Aside0.mk hc2
 clear hr2 hc2
 have HB := Aside0.mk (Below.refl w.heap.size w)
 have H : ((steelyardref03_Size_Number.f k a0_0 a0_1 a0_2 a1).bind fun bt465 => ((steelyardref03_Size_Number.f k a0_0 a0_1 a0_2 (IntKind.u64.wrap (a1 + 1))).bind fun bt469 => (if bt469.2 < bt465.2 then (some 0) else ((steelyardref02_Moved.f k bt469.1 (wrap64 (bt469.2 - bt465.2))).bind fun t473 => ((steelyardref02_Plus.f k bt465.1 t473).bind fun t476 => ((steelyardref02_Times.f k l2 (([2] : List Int))).bind fun t482 => ((steelyardref03_Against.f k t482 a3 t476 bt465.2).bind fun t485 => (some t485)))))))) = some r := h
 clear h
 obtain ⟨⟨t465, t468⟩, A5, H⟩ := ob_ H
 try dsimp only at H
 obtain ⟨⟨t469, t472⟩, A6, H⟩ := ob_ H
 try dsimp only at H
 by_cases c7 : t472 < t468
 ·rw [if_pos c7] at H
  have c7b0 : decide (t472 < t468) = true := decide_eq_true c7
  clear c7
  obtain rfl := Option.some.inj H
  go_enter Try.func86, Try.ntmps86
  go_wp2_with (first | ((with_reducible refine gate_dst (N := 4) rfl ?_); refine box_event ?hg (N := 4) ?hd (cs := #[.int .i64 a0_0, .int .i64 a0_1, .int .u64 a0_2]) (t := 83) ?hr ?_; (case hd => rfl); (case hg => rfl); (case hr => first | (go_simp; done) | (go_simp; rfl)); intro gb464 hg w8 hbox hb; have n0_ := bs_ HB hb; have n1_ := Aside0.mk (hbox); have n2_ := ge_ HB hg; have n3_ := ge_ HB hg; clear HB; have HB := n0_; have BK464 := n1_; have GW464 := n2_; have GE464 := n3_; clear n0_ n1_ n2_ n3_; clear hb hbox hg; have hcz9_0 : w8.cell? ⟨gb464, 0, none⟩ = some (.int .i64 a0_0) := (blk_cell BK464.out 0).trans rfl; have hcz9_1 : w8.cell? ⟨gb464, 1, none⟩ = some (.int .i64 a0_1) := (blk_cell BK464.out 1).trans rfl; have hcz9_2 : w8.cell? ⟨gb464, 2, none⟩ = some (.int .u64 a0_2) := (blk_cell BK464.out 2).trans rfl; have hfz9_0 := blk_frozen BK464.out 0; have hfz9_1 := blk_frozen BK464.out 1; have hfz9_2 := blk_frozen BK464.out 2) | ((with_reducible refine gate_callee (f := 82) rfl ?_); refine goesM (some 17) Try.func82 #[.agg #[.int .i64 a0_0, .int .i64 a0_1, .int .u64 a0_2], .int .u64 a1] ?_; (with_reducible refine (steelyardref03_Size_Number.calls k a0_0 a0_1 a0_2 a1 t465 t468 _ A5.out).mono ?_); rintro e w10 ⟨v466, rfl, ho0, hb⟩; refine ⟨_, rfl, ?_⟩; have n0_ := Aside0.mk (Kd.R_lower ho0 (below_size (bl_ HB))); have n1_ := kb_ BK464 hb; have n2_ := bs_ HB hb; clear BK464; clear HB; have HO467 := n0_; have BK464 := n1_; have HB := n2_; clear n0_ n1_ n2_; (try clear hb); (try clear hb2); (try clear hk); (try clear hi); (try clear ho0); have hcz11_0 : w10.cell? ⟨gb464, 0, none⟩ = some (.int .i64 a0_0) := (blk_cell BK464.out 0).trans rfl; have hcz11_1 : w10.cell? ⟨gb464, 1, none⟩ = some (.int .i64 a0_1) := (blk_cell BK464.out 1).trans rfl; have hcz11_2 : w10.cell? ⟨gb464, 2, none⟩ = some (.int .u64 a0_2) := (blk_cell BK464.out 2).trans rfl; have hfz11_0 := blk_frozen BK464.out 0; have hfz11_1 := blk_frozen BK464.out 1; have hfz11_2 := blk_frozen BK464.out 2) | ((with_reducible refine gate_callee (f := 82) rfl ?_); refine goesM (some 24) Try.func82 #[.agg #[.int .i64 a0_0, .int .i64 a0_1, .int .u64 a0_2], .int .u64 (IntKind.u64.wrap (a1 + 1))] ?_; (with_reducible refine (steelyardref03_Size_Number.calls k a0_0 a0_1 a0_2 (IntKind.u64.wrap (a1 + 1)) t469 t472 _ A6.out).mono ?_); rintro e w12 ⟨v470, rfl, ho0, hb⟩; refine ⟨_, rfl, ?_⟩; have n0_ := Aside0.mk (Kd.R_elder' (by (with_reducible repeat (first | apply rA | apply rN | apply rD)); exact HO467.out) (Kd.R_base ho0) hb); have n1_ := Aside0.mk (Kd.R_lower (Kd.R_new' ho0 (Kd.R_lt (by (with_reducible repeat (first | apply rA | apply rN | apply rD)); exact HO467.out))) (below_size (bl_ HB))); have n2_ := kb_ BK464 hb; have n3_ := bs_ HB hb; clear HO467; clear BK464; clear HB; have HO467 := n0_; have HO471 := n1_; have BK464 := n2_; have HB := n3_; clear n0_ n1_ n2_ n3_; (try clear hb); (try clear hb2); (try clear hk); (try clear hi); (try clear ho0)))
  go_ret
  exact ⟨by first | rfl | (simp [errW_none, errW_some] <;> rfl) | (simp [*, errW_none, errW_some] <;> rfl), bl_ HB⟩
 ·rw [if_neg c7] at H
  have c7b0 : decide (t472 < t468) = false := decide_eq_false c7
  clear c7
  obtain ⟨t473, A13, H⟩ := ob_ H
  try dsimp only at H
  obtain ⟨t476, A14, H⟩ := ob_ H
  try dsimp only at H
  obtain ⟨y479, hy479⟩ : ∃ y_ : List Int, y_ = (([2] : List Int)) := ⟨_, rfl⟩
  replace H : ((steelyardref02_Times.f k l2 y479).bind fun t482 => ((steelyardref03_Against.f k t482 a3 t476 t468).bind fun t485 => (some t485))) = some r := by first | (rw [hy479]; with_reducible exact H) | (have H2_ := (Option.bind_some _ _).symm.trans H; rw [hy479]; with_reducible exact H2_) | (have H2_ := (Option.bind_some _ _).symm.trans H; with_reducible exact H2_) | with_reducible exact H | (rw [hy479]; exact H) | exact H
  have Ny479 := Aside0.mk hy479
  clear hy479
  obtain ⟨t482, A15, H⟩ := ob_ H
  try dsimp only at H
  obtain ⟨t485, A16, H⟩ := ob_ H
  try dsimp only at H
  obtain rfl := Option.some.inj H
  go_enter Try.func86, Try.ntmps86
  go_wp2_with (first | ((with_reducible refine gate_dst (N := 4) rfl ?_); refine box_event ?hg (N := 4) ?hd (cs := #[.int .i64 a0_0, .int .i64 a0_1, .int .u64 a0_2]) (t := 83) ?hr ?_; (case hd => rfl); (case hg => rfl); (case hr => first | (go_simp; done) | (go_simp; rfl)); intro gb464 hg w17 hbox hb; have n0_ := bs_ HB hb; have n1_ := Aside0.mk (hbox); have n2_ := ge_ HB hg; have n3_ := ge_ HB hg; clear HB; have HB := n0_; have BK464 := n1_; have GW464 := n2_; have GE464 := n3_; clear n0_ n1_ n2_ n3_; clear hb hbox hg; have hcz18_0 : w17.cell? ⟨gb464, 0, none⟩ = some (.int .i64 a0_0) := (blk_cell BK464.out 0).trans rfl; have hcz18_1 : w17.cell? ⟨gb464, 1, none⟩ = some (.int .i64 a0_1) := (blk_cell BK464.out 1).trans rfl; have hcz18_2 : w17.cell? ⟨gb464, 2, none⟩ = some (.int .u64 a0_2) := (blk_cell BK464.out 2).trans rfl; have hfz18_0 := blk_frozen BK464.out 0; have hfz18_1 := blk_frozen BK464.out 1; have hfz18_2 := blk_frozen BK464.out 2) | ((with_reducible refine gate_callee (f := 82) rfl ?_); refine goesM (some 17) Try.func82 #[.agg #[.int .i64 a0_0, .int .i64 a0_1, .int .u64 a0_2], .int .u64 a1] ?_; (with_reducible refine (steelyardref03_Size_Number.calls k a0_0 a0_1 a0_2 a1 t465 t468 _ A5.out).mono ?_); rintro e w19 ⟨v466, rfl, ho0, hb⟩; refine ⟨_, rfl, ?_⟩; have n0_ := Aside0.mk (Kd.R_lower ho0 (below_size (bl_ HB))); have n1_ := kb_ BK464 hb; have n2_ := bs_ HB hb; clear BK464; clear HB; have HO467 := n0_; have BK464 := n1_; have HB := n2_; clear n0_ n1_ n2_; (try clear hb); (try clear hb2); (try clear hk); (try clear hi); (try clear ho0); have hcz20_0 : w19.cell? ⟨gb464, 0, none⟩ = some (.int .i64 a0_0) := (blk_cell BK464.out 0).trans rfl; have hcz20_1 : w19.cell? ⟨gb464, 1, none⟩ = some (.int .i64 a0_1) := (blk_cell BK464.out 1).trans rfl; have hcz20_2 : w19.cell? ⟨gb464, 2, none⟩ = some (.int .u64 a0_2) := (blk_cell BK464.out 2).trans rfl; have hfz20_0 := blk_frozen BK464.out 0; have hfz20_1 := blk_frozen BK464.out 1; have hfz20_2 := blk_frozen BK464.out 2) | ((with_reducible refine gate_callee (f := 82) rfl ?_); refine goesM (some 24) Try.func82 #[.agg #[.int .i64 a0_0, .int .i64 a0_1, .int .u64 a0_2], .int .u64 (IntKind.u64.wrap (a1 + 1))] ?_; (with_reducible refine (steelyardref03_Size_Number.calls k a0_0 a0_1 a0_2 (IntKind.u64.wrap (a1 + 1)) t469 t472 _ A6.out).mono ?_); rintro e w21 ⟨v470, rfl, ho0, hb⟩; refine ⟨_, rfl, ?_⟩; have n0_ := Aside0.mk (Kd.R_elder' (by (with_reducible repeat (first | apply rA | apply rN | apply rD)); exact HO467.out) (Kd.R_base ho0) hb); have n1_ := Aside0.mk (Kd.R_lower (Kd.R_new' ho0 (Kd.R_lt (by (with_reducible repeat (first | apply rA | apply rN | apply rD)); exact HO467.out))) (below_size (bl_ HB))); have n2_ := kb_ BK464 hb; have n3_ := bs_ HB hb; clear HO467; clear BK464; clear HB; have HO467 := n0_; have HO471 := n1_; have BK464 := n2_; have HB := n3_; clear n0_ n1_ n2_ n3_; (try clear hb); (try clear hb2); (try clear hk); (try clear hi); (try clear ho0); obtain ⟨Ao22, co22, eo22⟩ := Kd.R_slice HO471.out; subst eo22) | ((with_reducible refine gate_callee (f := 58) rfl ?_); refine goesM (some 35) Try.func58 #[.slice Ao22 t469.length co22, .int .i64 (wrap64 (t472 - t468))] ?_; (with_reducible refine (steelyardref02_Moved.calls k _ _ t469 (wrap64 (t472 - t468)) t473 _ ?side1 ?side2 A13.out).mono ?_); (case side1 => repeat (first | exact (Kd.R_reads' HO471.out).2.2 | (with_reducible first | apply cA | apply cN | apply cD))); (case side2 => exact (Kd.R_reads' HO471.out).2.1); rintro e w23 ⟨v474, rfl, ho0, hb⟩; refine ⟨_, rfl, ?_⟩; have n0_ := Aside0.mk (Kd.R_elder' (by (with_reducible repeat (first | apply rA | apply rN | apply rD)); exact HO467.out) (Kd.R_base ho0) hb); have n1_ := Aside0.mk (Kd.R_elder' (by (with_reducible repeat (first | apply rA | apply rN | apply rD)); exact HO471.out) (Kd.R_base ho0) hb); have n2_ := Aside0.mk (Kd.R_lower (Kd.R_new' (Kd.R_new' ho0 (Kd.R_lt (by (with_reducible repeat (first | apply rA | apply rN | apply rD)); exact HO467.out))) (Kd.R_lt (by (with_reducible repeat (first | apply rA | apply rN | apply rD)); exact HO471.out))) (below_size (bl_ HB))); have n3_ := kb_ BK464 hb; have n4_ := bs_ HB hb; clear HO467; clear HO471; clear BK464; clear HB; have HO467 := n0_; have HO471 := n1_; have HO475 := n2_; have BK464 := n3_; have HB := n4_; clear n0_ n1_ n2_ n3_ n4_; (try clear hb); (try clear hb2); (try clear hk); (try clear hi); (try clear ho0); obtain ⟨Ao24, co24, eo24⟩ := Kd.R_slice HO467.out; subst eo24; obtain ⟨Ao25, co25, eo25⟩ := Kd.R_slice HO475.out; subst eo25) | ((with_reducible refine gate_callee (f := 60) rfl ?_); refine goesM (some 36) Try.func60 #[.slice Ao24 t465.length co24, .slice Ao25 t473.length co25] ?_; (with_reducible refine (steelyardref02_Plus.calls k _ _ t465 _ _ t473 t476 _ ?side1 ?side2 ?side3 ?side4 A14.out).mono ?_); (case side1 => repeat (first | exact (Kd.R_reads' HO467.out).2.2 | (with_reducible first | apply cA | apply cN | apply cD))); (case side2 => exact (Kd.R_reads' HO467.out).2.1); (case side3 => repeat (first | exact (Kd.R_reads' HO475.out).2.2 | (with_reducible first | apply cA | apply cN | apply cD))); (case side4 => exact (Kd.R_reads' HO475.out).2.1); rintro e w26 ⟨v477, rfl, ho0, hb⟩; refine ⟨_, rfl, ?_⟩; have n0_ := Aside0.mk (Kd.R_elder' (by (with_reducible repeat (first | apply rA | apply rN | apply rD)); exact HO467.out) (Kd.R_base ho0) hb); have n1_ := Aside0.mk (Kd.R_elder' (by (with_reducible repeat (first | apply rA | apply rN | apply rD)); exact HO471.out) (Kd.R_base ho0) hb); have n2_ := Aside0.mk (Kd.R_elder' (by (with_reducible repeat (first | apply rA | apply rN | apply rD)); exact HO475.out) (Kd.R_base ho0) hb); have n3_ := Aside0.mk (Kd.R_lower (Kd.R_new' (Kd.R_new' (Kd.R_new' ho0 (Kd.R_lt (by (with_reducible repeat (first | apply rA | apply rN | apply rD)); exact HO467.out))) (Kd.R_lt (by (with_reducible repeat (first | apply rA | apply rN | apply rD)); exact HO471.out))) (Kd.R_lt (by (with_reducible repeat (first | apply rA | apply rN | apply rD)); exact HO475.out))) (below_size (bl_ HB))); have n4_ := kb_ BK464 hb; have n5_ := bs_ HB hb; clear HO467; clear HO471; clear HO475; clear BK464; clear HB; have HO467 := n0_; have HO471 := n1_; have HO475 := n2_; have HO478 := n3_; have BK464 := n4_; have HB := n5_; clear n0_ n1_ n2_ n3_ n4_ n5_; (try clear hb); (try clear hb2); (try clear hk); (try clear hi); (try clear ho0)) | ((with_reducible refine gate_dst (N := 38) rfl ?_); refine Kd.R_lit (Kd.int .u32) _ 72 ?hg (N := 38) ?hd (xs := ([2] : List Int)) (inner := [.int .u32 2]) (ok := fun _ => True) (okp := fun _ => True) ?hr ?hp (fun _ hk => hk) trivial (Below.refl _ _) (Nat.le_refl _) (by simp) ?_; (case hd => rfl); (case hg => rfl); (case hr => first | (go_simp; done) | (go_simp; rfl)); (case hp => exact (Reps.one (show Kd.M (Kd.int .u32) _ _ _ 2 [.int .u32 2] from rfl) (Reps.none _ _))); intro v480 w27 ho28 hb hg_ hnew_; clear hg_ hnew_; (first | rw [← Ny479.out] at ho28 | (simp only [Int.reduceToNat] at ho28; rw [← Ny479.out] at ho28)); have n0_ := Aside0.mk (Kd.R_elder' (by (with_reducible repeat (first | apply rA | apply rN | apply rD)); exact HO467.out) (Kd.R_base ho28) hb); have n1_ := Aside0.mk (Kd.R_elder' (by (with_reducible repeat (first | apply rA | apply rN | apply rD)); exact HO471.out) (Kd.R_base ho28) hb); have n2_ := Aside0.mk (Kd.R_elder' (by (with_reducible repeat (first | apply rA | apply rN | apply rD)); exact HO475.out) (Kd.R_base ho28) hb); have n3_ := Aside0.mk (Kd.R_elder' (by (with_reducible repeat (first | apply rA | apply rN | apply rD)); exact HO478.out) (Kd.R_base ho28) hb); have n4_ := Aside0.mk (Kd.R_lower (Kd.R_new' (Kd.R_new' (Kd.R_new' (Kd.R_new' ho28 (Kd.R_lt (by (with_reducible repeat (first | apply rA | apply rN | apply rD)); exact HO467.out))) (Kd.R_lt (by (with_reducible repeat (first | apply rA | apply rN | apply rD)); exact HO471.out))) (Kd.R_lt (by (with_reducible repeat (first | apply rA | apply rN | apply rD)); exact HO475.out))) (Kd.R_lt (by (with_reducible repeat (first | apply rA | apply rN | apply rD)); exact HO478.out))) (below_size (bl_ HB))); have n5_ := kb_ BK464 hb; have n6_ := bs_ HB hb; clear HO467; clear HO471; clear HO475; clear HO478; clear BK464; clear HB; have HO467 := n0_; have HO471 := n1_; have HO475 := n2_; have HO478 := n3_; have HO481 := n4_; have BK464 := n5_; have HB := n6_; clear n0_ n1_ n2_ n3_ n4_ n5_ n6_; clear hb ho28; obtain ⟨Ao29, co29, eo29⟩ := Kd.R_slice HO481.out; subst eo29) | ((with_reducible refine gate_callee (f := 63) rfl ?_); refine goesM (some 39) Try.func63 #[.slice A2 l2.length c2, .slice Ao29 y479.length co29] ?_; (with_reducible refine (steelyardref02_Times.calls k _ _ l2 _ _ y479 t482 _ ?side1 ?side2 ?side3 ?side4 A15.out).mono ?_); (case side1 => repeat (first | exact (Kd.C_below HR2.out HB.out) | (with_reducible first | apply cA | apply cN | apply cD))); (case side2 => exact HC2.out); (case side3 => repeat (first | exact (Kd.R_reads' HO481.out).2.2 | (with_reducible first | apply cA | apply cN | apply cD))); (case side4 => exact (Kd.R_reads' HO481.out).2.1); rintro e w30 ⟨v483, rfl, ho0, hb⟩; refine ⟨_, rfl, ?_⟩; have n0_ := Aside0.mk (Kd.R_elder' (by (with_reducible repeat (first | apply rA | apply rN | apply rD)); exact HO467.out) (Kd.R_base ho0) hb); have n1_ := Aside0.mk (Kd.R_elder' (by (with_reducible repeat (first | apply rA | apply rN | apply rD)); exact HO471.out) (Kd.R_base ho0) hb); have n2_ := Aside0.mk (Kd.R_elder' (by (with_reducible repeat (first | apply rA | apply rN | apply rD)); exact HO475.out) (Kd.R_base ho0) hb); have n3_ := Aside0.mk (Kd.R_elder' (by (with_reducible repeat (first | apply rA | apply rN | apply rD)); exact HO478.out) (Kd.R_base ho0) hb); have n4_ := Aside0.mk (Kd.R_elder' (by (with_reducible repeat (first | apply rA | apply rN | apply rD)); exact HO481.out) (Kd.R_base ho0) hb); have n5_ := Aside0.mk (Kd.R_lower (Kd.R_new' (Kd.R_new' (Kd.R_new' (Kd.R_new' (Kd.R_new' ho0 (Kd.R_lt (by (with_reducible repeat (first | apply rA | apply rN | apply rD)); exact HO467.out))) (Kd.R_lt (by (with_reducible repeat (first | apply rA | apply rN | apply rD)); exact HO471.out))) (Kd.R_lt (by (with_reducible repeat (first | apply rA | apply rN | apply rD)); exact HO475.out))) (Kd.R_lt (by (with_reducible repeat (first | apply rA | apply rN | apply rD)); exact HO478.out))) (Kd.R_lt (by (with_reducible repeat (first | apply rA | apply rN | apply rD)); exact HO481.out))) (below_size (bl_ HB))); have n6_ := kb_ BK464 hb; have n7_ := bs_ HB hb; clear HO467; clear HO471; clear HO475; clear HO478; clear HO481; clear BK464; clear HB; have HO467 := n0_; have HO471 := n1_; have HO475 := n2_; have HO478 := n3_; have HO481 := n4_; have HO484 := n5_; have BK464 := n6_; have HB := n7_; clear n0_ n1_ n2_ n3_ n4_ n5_ n6_ n7_; (try clear hb); (try clear hb2); (try clear hk); (try clear hi); (try clear ho0); obtain ⟨Ao31, co31, eo31⟩ := Kd.R_slice HO484.out; subst eo31; obtain ⟨Ao32, co32, eo32⟩ := Kd.R_slice HO478.out; subst eo32) | ((with_reducible refine gate_callee (f := 74) rfl ?_); refine goesM (some 43) Try.func74 #[.slice Ao31 t482.length co31, .int .i64 a3, .slice Ao32 t476.length co32, .int .i64 t468] ?_; (with_reducible refine (steelyardref03_Against.calls k _ _ t482 a3 _ _ t476 t468 t485 _ ?side1 ?side2 ?side3 ?side4 A16.out).mono ?_); (case side1 => repeat (first | exact (Kd.R_reads' HO484.out).2.2 | (with_reducible first | apply cA | apply cN | apply cD))); (case side2 => exact (Kd.R_reads' HO484.out).2.1); (case side3 => repeat (first | exact (Kd.R_reads' HO478.out).2.2 | (with_reducible first | apply cA | apply cN | apply cD))); (case side4 => exact (Kd.R_reads' HO478.out).2.1); rintro e w33 ⟨rfl, hb⟩; refine ⟨_, rfl, ?_⟩; have n0_ := Aside0.mk (Kd.R_below (by (with_reducible repeat (first | apply rA | apply rN | apply rD)); exact HO467.out) hb); have n1_ := Aside0.mk (Kd.R_below (by (with_reducible repeat (first | apply rA | apply rN | apply rD)); exact HO471.out) hb); have n2_ := Aside0.mk (Kd.R_below (by (with_reducible repeat (first | apply rA | apply rN | apply rD)); exact HO475.out) hb); have n3_ := Aside0.mk (Kd.R_below (by (with_reducible repeat (first | apply rA | apply rN | apply rD)); exact HO478.out) hb); have n4_ := Aside0.mk (Kd.R_below (by (with_reducible repeat (first | apply rA | apply rN | apply rD)); exact HO481.out) hb); have n5_ := Aside0.mk (Kd.R_below (by (with_reducible repeat (first | apply rA | apply rN | apply rD)); exact HO484.out) hb); have n6_ := kb_ BK464 hb; have n7_ := bs_ HB hb; clear HO467; clear HO471; clear HO475; clear HO478; clear HO481; clear HO484; clear BK464; clear HB; have HO467 := n0_; have HO471 := n1_; have HO475 := n2_; have HO478 := n3_; have HO481 := n4_; have HO484 := n5_; have BK464 := n6_; have HB := n7_; clear n0_ n1_ n2_ n3_ n4_ n5_ n6_ n7_; (try clear hb); (try clear hb2); (try clear hk); (try clear hi)))
  go_ret
  exact ⟨by first | rfl | (simp [errW_none, errW_some] <;> rfl) | (simp [*, errW_none, errW_some] <;> rfl), bl_ HB⟩

end Go.Proofs.Ytdemanikmaafeaa.Pr
