-- short
-- written by this session's own program (wip/fprint.py), which widens the kit's print by floats
import Derived.Test.YtdemanikmaafeaaPr0
import Derived.Test.YtdemanikmaafeaaPr1
import Derived.Test.YtdemanikmaafeaaPr2
import Derived.Test.YtdemanikmaafeaaPr3
import Derived.Test.YtdemanikmaafeaaPr4
import Derived.Test.YtdemanikmaafeaaPr5
import Derived.Test.YtdemanikmaafeaaPr23
import Derived.Test.YtdemanikmaafeaaPr27
namespace Go.Proofs.Ytdemanikmaafeaa.Pr
open Go.RowKit Go.Proofs.YtdemanikmaafeaaW.PrintWords Go.Proofs.YtdemanikmaafeaaW.PrintLast Go.Proofs.YtdemanikmaafeaaW.PrintMore
attribute [local go_sem] max2_int min2_int max_two min_two max_three min_three max_four min_four   -- for this text's walks alone
set_option linter.unusedVariables false
set_option linter.unusedSimpArgs false

/-! ### steelyardlaw05_PairSteps: function 4 -/
def steelyardlaw05_PairSteps.l0 : Nat → Nat → Nat → Nat → Nat → Bool → List Nat → List Nat → Int → Option (Bool)
 | 0, _, _, _, _, _, _, _, _ => none
 | k + 1, x0, x1, x2, x3, x9, x10, x11, x12 => if x12 < (x10.length : Int) then (if 0 ≤ x12 then (if x12 < (x11.length : Int) then ((pair_Sum.f (rdOf (0 : Nat) x10 x12) (rdOf (0 : Nat) x11 x12)).bind fun bt674 => ((steelyardref05_Sum.f k (rdOf (0 : Nat) x10 x12) (rdOf (0 : Nat) x11 x12)).bind fun bt676 => ((steelyardref05_SamePair.f bt674.1 bt674.2 bt676.1 bt676.2).bind fun t678 => ((pair_Quick.f (rdOf (0 : Nat) x10 x12) (rdOf (0 : Nat) x11 x12)).bind fun bt679 => ((steelyardref05_Quick.f k (rdOf (0 : Nat) x10 x12) (rdOf (0 : Nat) x11 x12)).bind fun bt681 => ((steelyardref05_SamePair.f bt679.1 bt679.2 bt681.1 bt681.2).bind fun t683 => ((pair_Halves.f (rdOf (0 : Nat) x10 x12)).bind fun bt684 => ((steelyardref05_Halves.f k (rdOf (0 : Nat) x10 x12)).bind fun bt686 => ((steelyardref05_SamePair.f bt684.1 bt684.2 bt686.1 bt686.2).bind fun t688 => ((pair_Product.f (rdOf (0 : Nat) x10 x12) (rdOf (0 : Nat) x11 x12)).bind fun bt689 => ((steelyardref05_Product.f k (rdOf (0 : Nat) x10 x12) (rdOf (0 : Nat) x11 x12)).bind fun bt691 => ((steelyardref05_SamePair.f bt689.1 bt689.2 bt691.1 bt691.2).bind fun t693 => (if t678 = true then (if t683 = true then (if t688 = true then (if t693 = true then (steelyardlaw05_PairSteps.l0 k x0 x1 x2 x3 x9 x10 x11 (wrap64 (x12 + 1))) else (none)) else (none)) else (none)) else (none)))))))))))))) else (none)) else (none)) else ((pair_Add.f x0 x1 x2 x3).bind fun bt696 => ((steelyardref05_Add.f k x0 x1 x2 x3).bind fun bt698 => ((steelyardref05_SamePair.f bt696.1 bt696.2 bt698.1 bt698.2).bind fun t700 => ((pair_Mul.f x0 x1 x2 x3).bind fun bt701 => ((steelyardref05_Mul.f k x0 x1 x2 x3).bind fun bt703 => ((steelyardref05_SamePair.f bt701.1 bt701.2 bt703.1 bt703.2).bind fun t705 => ((pair_Value.f x0 x1).bind fun t706 => ((steelyardref05_Value.f k x0 x1).bind fun t707 => ((steelyardref05_Same.f t706 t707).bind fun t708 => (if x9 = true then (if t700 = true then (if t705 = true then (some t708) else (none)) else (none)) else (none)))))))))))
def steelyardlaw05_PairSteps.f (k : Nat) (a0 : Nat) (a1 : Nat) (a2 : Nat) (a3 : Nat) : Option (Bool) := (steelyardlaw05_awake.f).bind fun t665 => (steelyardlaw05_PairSteps.l0 k a0 a1 a2 a3 t665 (([a0, a1, a2, a0] : List Nat)) (([a1, a0, a3, a0] : List Nat)) 0)
theorem steelyardlaw05_PairSteps.mono_l : ∀ k, (∀ y0 y1 y2 y3 y4 y5 y6 y7, LeO (steelyardlaw05_PairSteps.l0 k y0 y1 y2 y3 y4 y5 y6 y7) (steelyardlaw05_PairSteps.l0 (k + 1) y0 y1 y2 y3 y4 y5 y6 y7))
 | 0 => fun _ _ _ _ _ _ _ _ r h => by simp [steelyardlaw05_PairSteps.l0] at h
 | k + 1 => by
  have ih0 := steelyardlaw05_PairSteps.mono_l k
  ·intro y0 y1 y2 y3 y4 y5 y6 y7
   unfold steelyardlaw05_PairSteps.l0
   repeat' first
   | (with_reducible exact ih0 _ _ _ _ _ _ _ _)
   | (with_reducible exact steelyardref05_Add.mono _ _ _ _ _)
   | (with_reducible exact steelyardref05_Halves.mono _ _)
   | (with_reducible exact steelyardref05_Mul.mono _ _ _ _ _)
   | (with_reducible exact steelyardref05_Product.mono _ _ _)
   | (with_reducible exact steelyardref05_Quick.mono _ _ _)
   | (with_reducible exact steelyardref05_Sum.mono _ _ _)
   | (with_reducible exact steelyardref05_Value.mono _ _ _)
   | (with_reducible exact LeO.refl _)
   | (with_reducible exact LeO.none _)
   | (with_reducible refine LeO.ite ?_ ?_)
   | (with_reducible refine LeO.bind ?_ (fun _ => ?_))
   | exact ih0 _ _ _ _ _ _ _ _
   | exact steelyardref05_Add.mono _ _ _ _ _
   | exact steelyardref05_Halves.mono _ _
   | exact steelyardref05_Mul.mono _ _ _ _ _
   | exact steelyardref05_Product.mono _ _ _
   | exact steelyardref05_Quick.mono _ _ _
   | exact steelyardref05_Sum.mono _ _ _
   | exact steelyardref05_Value.mono _ _ _
   | exact LeO.none _
   | refine LeO.ite ?_ ?_
   | refine LeO.bind ?_ (fun _ => ?_)
theorem steelyardlaw05_PairSteps.mono : ∀ a0 a1 a2 a3 k, LeO (steelyardlaw05_PairSteps.f k a0 a1 a2 a3) (steelyardlaw05_PairSteps.f (k + 1) a0 a1 a2 a3) := by
 intro a0 a1 a2 a3 k
 have ih0 := steelyardlaw05_PairSteps.mono_l k
 unfold steelyardlaw05_PairSteps.f
 repeat' first
   | (with_reducible exact ih0 _ _ _ _ _ _ _ _)
   | (with_reducible exact steelyardref05_Add.mono _ _ _ _ _)
   | (with_reducible exact steelyardref05_Halves.mono _ _)
   | (with_reducible exact steelyardref05_Mul.mono _ _ _ _ _)
   | (with_reducible exact steelyardref05_Product.mono _ _ _)
   | (with_reducible exact steelyardref05_Quick.mono _ _ _)
   | (with_reducible exact steelyardref05_Sum.mono _ _ _)
   | (with_reducible exact steelyardref05_Value.mono _ _ _)
   | (with_reducible exact LeO.refl _)
   | (with_reducible exact LeO.none _)
   | (with_reducible refine LeO.ite ?_ ?_)
   | (with_reducible refine LeO.bind ?_ (fun _ => ?_))
   | exact ih0 _ _ _ _ _ _ _ _
   | exact steelyardref05_Add.mono _ _ _ _ _
   | exact steelyardref05_Halves.mono _ _
   | exact steelyardref05_Mul.mono _ _ _ _ _
   | exact steelyardref05_Product.mono _ _ _
   | exact steelyardref05_Quick.mono _ _ _
   | exact steelyardref05_Sum.mono _ _ _
   | exact steelyardref05_Value.mono _ _ _
   | exact LeO.none _
   | refine LeO.ite ?_ ?_
   | refine LeO.bind ?_ (fun _ => ?_)
def steelyardlaw05_PairSteps.T17 : Bool × List (List Nat × List Nat) := (true, [([], []), ([], []), ([0, 1], [0, 1]), ([], []), ([], []), ([3, 4, 2], [3, 4]), ([2, 5, 5], [2, 5]), ([6, 6, 0, 1, 2, 3, 4, 5, 6], [6])])
def steelyardlaw05_PairSteps.B17 : List Nat := [0, 0, 3, 0, 0, 31, 63, 127]
theorem steelyardlaw05_PairSteps.tab17 : rtab .any (opsOf Try.f4 17) = steelyardlaw05_PairSteps.T17 := by kernel_rfl
theorem steelyardlaw05_PairSteps.bits17 : waitsOk steelyardlaw05_PairSteps.T17.2 steelyardlaw05_PairSteps.B17 = true := by kernel_rfl
def steelyardlaw05_PairSteps.T18 : Bool × List (List Nat × List Nat) := (true, [([], []), ([], []), ([0, 1], [0, 1]), ([], []), ([], []), ([3, 4, 2], [3, 4]), ([2, 5, 5], [2, 5]), ([6, 6, 0, 1, 2, 3, 4, 5, 6], [6])])
def steelyardlaw05_PairSteps.B18 : List Nat := [0, 0, 3, 0, 0, 31, 63, 127]
theorem steelyardlaw05_PairSteps.tab18 : rtab .any (opsOf Try.f4 18) = steelyardlaw05_PairSteps.T18 := by kernel_rfl
theorem steelyardlaw05_PairSteps.bits18 : waitsOk steelyardlaw05_PairSteps.T18.2 steelyardlaw05_PairSteps.B18 = true := by kernel_rfl
set_option maxHeartbeats 3000000 in
set_option maxRecDepth 100000 in
theorem steelyardlaw05_PairSteps.calls (k : Nat) (a0 : Nat) (a1 : Nat) (a2 : Nat) (a3 : Nat) (r : Bool) (w : World) (h : steelyardlaw05_PairSteps.f k a0 a1 a2 a3 = some r) :
  Calls Try.prog 4 #[.float .f64 a0, .float .f64 a1, .float .f64 a2, .float .f64 a3] w fun e w' => e = .returned (.bool r) ∧ Below w.heap.size w w' := by
 have hu30 := Try.underlying30
 have HB := Aside0.mk (Below.refl w.heap.size w)
 have H : ((steelyardlaw05_awake.f).bind fun t665 => (steelyardlaw05_PairSteps.l0 k a0 a1 a2 a3 t665 (([a0, a1, a2, a0] : List Nat)) (([a1, a0, a3, a0] : List Nat)) 0)) = some r := h
 clear h
 obtain ⟨t665, A5, H⟩ := ob_ H
 try dsimp only at H
 obtain ⟨y666, hy666⟩ : ∃ y_ : List Nat, y_ = (([a0, a1, a2, a0] : List Nat)) := ⟨_, rfl⟩
 replace H : (steelyardlaw05_PairSteps.l0 k a0 a1 a2 a3 t665 y666 (([a1, a0, a3, a0] : List Nat)) 0) = some r := by first | (rw [hy666]; with_reducible exact H) | (have H2_ := (Option.bind_some _ _).symm.trans H; rw [hy666]; with_reducible exact H2_) | (have H2_ := (Option.bind_some _ _).symm.trans H; with_reducible exact H2_) | with_reducible exact H | (rw [hy666]; exact H) | exact H
 have Ny666 := Aside0.mk hy666
 clear hy666
 obtain ⟨y669, hy669⟩ : ∃ y_ : List Nat, y_ = (([a1, a0, a3, a0] : List Nat)) := ⟨_, rfl⟩
 replace H : (steelyardlaw05_PairSteps.l0 k a0 a1 a2 a3 t665 y666 y669 0) = some r := by first | (rw [hy669]; with_reducible exact H) | (have H2_ := (Option.bind_some _ _).symm.trans H; rw [hy669]; with_reducible exact H2_) | (have H2_ := (Option.bind_some _ _).symm.trans H; with_reducible exact H2_) | with_reducible exact H | (rw [hy669]; exact H) | exact H
 have Ny669 := Aside0.mk hy669
 clear hy669
 have H' := Aside0.mk H
 clear H
 go_enter Try.func4, Try.ntmps4
 go_wp2_with (first | ((with_reducible refine gate_callee (f := 7) rfl ?_); refine goesM (some 24) Try.func7 #[] ?_; (with_reducible refine (steelyardlaw05_awake.calls  t665 _ A5.out).mono ?_); rintro e w6 ⟨rfl, hb⟩; refine ⟨_, rfl, ?_⟩; have n0_ := bs_ HB hb; clear HB; have HB := n0_; clear n0_; (try clear hb); (try clear hb2); (try clear hk); (try clear hi)) | ((with_reducible refine gate_dst (N := 29) rfl ?_); refine Kd.R_lit (Kd.float .f64) _ 23 ?hg (N := 29) ?hd (xs := ([a0, a1, a2, a0] : List Nat)) (inner := [.float .f64 a0, .float .f64 a1, .float .f64 a2, .float .f64 a0]) (ok := fun _ => True) (okp := fun _ => True) ?hr ?hp (fun _ hk => hk) trivial (Below.refl _ _) (Nat.le_refl _) (by simp) ?_; (case hd => rfl); (case hg => rfl); (case hr => first | (go_simp; done) | (go_simp; rfl)); (case hp => exact (Reps.one (show Kd.M (Kd.float .f64) _ _ _ a0 [.float .f64 a0] from rfl) (Reps.one (show Kd.M (Kd.float .f64) _ _ _ a1 [.float .f64 a1] from rfl) (Reps.one (show Kd.M (Kd.float .f64) _ _ _ a2 [.float .f64 a2] from rfl) (Reps.one (show Kd.M (Kd.float .f64) _ _ _ a0 [.float .f64 a0] from rfl) (Reps.none _ _)))))); intro v667 w7 ho8 hb hg_ hnew_; clear hg_ hnew_; (first | rw [← Ny666.out] at ho8 | (simp only [Int.reduceToNat] at ho8; rw [← Ny666.out] at ho8)); have n0_ := Aside0.mk (Kd.R_lower ho8 (below_size (bl_ HB))); have n1_ := bs_ HB hb; clear HB; have HO668 := n0_; have HB := n1_; clear n0_ n1_; clear hb ho8) | ((with_reducible refine gate_dst (N := 34) rfl ?_); refine Kd.R_lit (Kd.float .f64) _ 23 ?hg (N := 34) ?hd (xs := ([a1, a0, a3, a0] : List Nat)) (inner := [.float .f64 a1, .float .f64 a0, .float .f64 a3, .float .f64 a0]) (ok := fun _ => True) (okp := fun _ => True) ?hr ?hp (fun _ hk => hk) trivial (Below.refl _ _) (Nat.le_refl _) (by simp) ?_; (case hd => rfl); (case hg => rfl); (case hr => first | (go_simp; done) | (go_simp; rfl)); (case hp => exact (Reps.one (show Kd.M (Kd.float .f64) _ _ _ a1 [.float .f64 a1] from rfl) (Reps.one (show Kd.M (Kd.float .f64) _ _ _ a0 [.float .f64 a0] from rfl) (Reps.one (show Kd.M (Kd.float .f64) _ _ _ a3 [.float .f64 a3] from rfl) (Reps.one (show Kd.M (Kd.float .f64) _ _ _ a0 [.float .f64 a0] from rfl) (Reps.none _ _)))))); intro v670 w9 ho10 hb hg_ hnew_; clear hg_ hnew_; (first | rw [← Ny669.out] at ho10 | (simp only [Int.reduceToNat] at ho10; rw [← Ny669.out] at ho10)); have n0_ := Aside0.mk (Kd.R_elder' (by (with_reducible repeat (first | apply rA | apply rN | apply rD)); exact HO668.out) (Kd.R_base ho10) hb); have n1_ := Aside0.mk (Kd.R_lower (Kd.R_new' ho10 (Kd.R_lt (by (with_reducible repeat (first | apply rA | apply rN | apply rD)); exact HO668.out))) (below_size (bl_ HB))); have n2_ := bs_ HB hb; clear HO668; clear HB; have HO668 := n0_; have HO671 := n1_; have HB := n2_; clear n0_ n1_ n2_; clear hb ho10))
 go_loopg [12] k (fun kq v12 w' => ∃ (x12_1 : Int), v12 = .int .i64 x12_1 ∧ Aside0 (steelyardlaw05_PairSteps.l0 kq a0 a1 a2 a3 t665 y666 y669 x12_1 = some r) ∧ Aside0 (kq ≤ k) ∧ Aside0 (Kd.R (Kd.float .f64) 23 w' w.heap.size (fun k_ => some k_ ≠ (v670 : Value).ownBlock) v667 y666) ∧ Aside0 (Kd.R (Kd.float .f64) 23 w' w.heap.size (fun k_ => some k_ ≠ (v667 : Value).ownBlock) v670 y669) ∧ Aside0 (Below w.heap.size w w'))
 case atStart => exact ⟨(0), (by first | rfl | (simp; done) | (simp [*]; done)), H', ⟨Nat.le_refl _⟩, ⟨by (with_reducible repeat (first | apply rA | apply rN | apply rD)); exact Kd.R_mono HO668.out (fun _ hk => hk.2)⟩, ⟨by (with_reducible repeat (first | apply rA | apply rN | apply rD)); exact Kd.R_mono HO671.out (fun _ hk => hk.2)⟩, ⟨bl_ HB⟩⟩
 case round =>
  clear H'
  try clear p2
  try clear c4
  try clear c7
  obtain ⟨x12_1, rfl, HA, HK1, HO_10, HO_11, HB⟩ := hrel
  cases gk with
  | zero => exact absurd HA.out (by simp [steelyardlaw05_PairSteps.l0])
  | succ k1 =>
   have H := HA.out
   clear HA
   simp only [steelyardlaw05_PairSteps.l0] at H
   by_cases c11 : x12_1 < (y666.length : Int)
   ·rw [if_pos c11] at H
    have c11b0 : decide (x12_1 < (y666.length : Int)) = true := decide_eq_true c11
    clear c11
    by_cases c12 : 0 ≤ x12_1
    ·rw [if_pos c12] at H
     have c12b0 : decide (0 ≤ x12_1) = true := decide_eq_true c12
     clear c12
     by_cases c13 : x12_1 < (y669.length : Int)
     ·rw [if_pos c13] at H
      have c13b0 : decide (x12_1 < (y669.length : Int)) = true := decide_eq_true c13
      clear c13
      obtain ⟨⟨t674, t675⟩, A14, H⟩ := ob_ H
      try dsimp only at H
      obtain ⟨⟨t676, t677⟩, A15, H⟩ := ob_ H
      try dsimp only at H
      obtain ⟨t678, A16, H⟩ := ob_ H
      try dsimp only at H
      obtain ⟨⟨t679, t680⟩, A17, H⟩ := ob_ H
      try dsimp only at H
      obtain ⟨⟨t681, t682⟩, A18, H⟩ := ob_ H
      try dsimp only at H
      obtain ⟨t683, A19, H⟩ := ob_ H
      try dsimp only at H
      obtain ⟨⟨t684, t685⟩, A20, H⟩ := ob_ H
      try dsimp only at H
      obtain ⟨⟨t686, t687⟩, A21, H⟩ := ob_ H
      try dsimp only at H
      obtain ⟨t688, A22, H⟩ := ob_ H
      try dsimp only at H
      obtain ⟨⟨t689, t690⟩, A23, H⟩ := ob_ H
      try dsimp only at H
      obtain ⟨⟨t691, t692⟩, A24, H⟩ := ob_ H
      try dsimp only at H
      obtain ⟨t693, A25, H⟩ := ob_ H
      try dsimp only at H
      by_cases c26 : t678 = true
      ·subst c26
       have H1 : (if t683 = true then (if t688 = true then (if t693 = true then (steelyardlaw05_PairSteps.l0 k1 a0 a1 a2 a3 t665 y666 y669 (wrap64 (x12_1 + 1))) else (none)) else (none)) else (none)) = some r := by rw [if_pos rfl] at H; exact H
       clear H
       have H := H1
       clear H1
       by_cases c27 : t683 = true
       ·subst c27
        have H1 : (if t688 = true then (if t693 = true then (steelyardlaw05_PairSteps.l0 k1 a0 a1 a2 a3 t665 y666 y669 (wrap64 (x12_1 + 1))) else (none)) else (none)) = some r := by rw [if_pos rfl] at H; exact H
        clear H
        have H := H1
        clear H1
        by_cases c28 : t688 = true
        ·subst c28
         have H1 : (if t693 = true then (steelyardlaw05_PairSteps.l0 k1 a0 a1 a2 a3 t665 y666 y669 (wrap64 (x12_1 + 1))) else (none)) = some r := by rw [if_pos rfl] at H; exact H
         clear H
         have H := H1
         clear H1
         by_cases c29 : t693 = true
         ·subst c29
          have H1 : (steelyardlaw05_PairSteps.l0 k1 a0 a1 a2 a3 t665 y666 y669 (wrap64 (x12_1 + 1))) = some r := by rw [if_pos rfl] at H; exact H
          clear H
          have H := H1
          clear H1
          have H' := Aside0.mk H
          clear H
          obtain ⟨Ao30, co30, eo30⟩ := Kd.R_slice HO_10.out
          subst eo30
          have p672 : 0 ≤ (x12_1 : Int) := of_decide_eq_true (by first | (with_reducible assumption) | assumption)
          have q672 : x12_1 < (y666.length : Int) := of_decide_eq_true (by first | (with_reducible assumption) | assumption)
          obtain ⟨ad672, e672, hx672_0⟩ := Kd.at_float (Kd.R_reads' HO_10.out).2.2 x12_1 p672 q672
          cases e672
          replace p672 := eq_true p672
          replace q672 := eq_true q672
          obtain ⟨Ao31, co31, eo31⟩ := Kd.R_slice HO_11.out
          subst eo31
          have p673 : 0 ≤ (x12_1 : Int) := of_decide_eq_true (by first | (with_reducible assumption) | assumption)
          have q673 : x12_1 < (y669.length : Int) := of_decide_eq_true (by first | (with_reducible assumption) | assumption)
          obtain ⟨ad673, e673, hx673_0⟩ := Kd.at_float (Kd.R_reads' HO_11.out).2.2 x12_1 p673 q673
          cases e673
          replace p673 := eq_true p673
          replace q673 := eq_true q673
          go_wp2_with (first | ((with_reducible refine gate_callee (f := 12) rfl ?_); refine goesM (some 51) Try.func12 #[.float .f64 (rdOf (0 : Nat) y666 x12_1), .float .f64 (rdOf (0 : Nat) y669 x12_1)] ?_; (with_reducible refine (pair_Sum.calls (rdOf (0 : Nat) y666 x12_1) (rdOf (0 : Nat) y669 x12_1) t674 t675 _ A14.out).mono ?_); rintro e w32 ⟨rfl, hb⟩; refine ⟨_, rfl, ?_⟩; have n0_ := Aside0.mk (Kd.R_below (by (with_reducible repeat (first | apply rA | apply rN | apply rD)); exact HO_10.out) hb); have n1_ := Aside0.mk (Kd.R_below (by (with_reducible repeat (first | apply rA | apply rN | apply rD)); exact HO_11.out) hb); have n2_ := bs_ HB hb; clear HO_10; clear HO_11; clear HB; have HO_10 := n0_; have HO_11 := n1_; have HB := n2_; clear n0_ n1_ n2_; (try clear hb); (try clear hb2); (try clear hk); (try clear hi)) | ((with_reducible refine gate_callee (f := 17) rfl ?_); refine goesM (some 54) Try.func17 #[.float .f64 (rdOf (0 : Nat) y666 x12_1), .float .f64 (rdOf (0 : Nat) y669 x12_1)] ?_; (with_reducible refine (steelyardref05_Sum.calls k1 (rdOf (0 : Nat) y666 x12_1) (rdOf (0 : Nat) y669 x12_1) t676 t677 _ A15.out).mono ?_); rintro e w33 ⟨rfl, hb⟩; refine ⟨_, rfl, ?_⟩; have n0_ := Aside0.mk (Kd.R_below (by (with_reducible repeat (first | apply rA | apply rN | apply rD)); exact HO_10.out) hb); have n1_ := Aside0.mk (Kd.R_below (by (with_reducible repeat (first | apply rA | apply rN | apply rD)); exact HO_11.out) hb); have n2_ := bs_ HB hb; clear HO_10; clear HO_11; clear HB; have HO_10 := n0_; have HO_11 := n1_; have HB := n2_; clear n0_ n1_ n2_; (try clear hb); (try clear hb2); (try clear hk); (try clear hi)) | ((with_reducible refine gate_callee (f := 16) rfl ?_); refine goesM (some 55) Try.func16 #[.agg #[.float .f64 t674, .float .f64 t675], .agg #[.float .f64 t676, .float .f64 t677]] ?_; (with_reducible refine (steelyardref05_SamePair.calls t674 t675 t676 t677 true _ A16.out).mono ?_); rintro e w34 ⟨rfl, hb⟩; refine ⟨_, rfl, ?_⟩; have n0_ := Aside0.mk (Kd.R_below (by (with_reducible repeat (first | apply rA | apply rN | apply rD)); exact HO_10.out) hb); have n1_ := Aside0.mk (Kd.R_below (by (with_reducible repeat (first | apply rA | apply rN | apply rD)); exact HO_11.out) hb); have n2_ := bs_ HB hb; clear HO_10; clear HO_11; clear HB; have HO_10 := n0_; have HO_11 := n1_; have HB := n2_; clear n0_ n1_ n2_; (try clear hb); (try clear hb2); (try clear hk); (try clear hi)) | ((with_reducible refine gate_callee (f := 18) rfl ?_); refine goesM (some 58) Try.func18 #[.float .f64 (rdOf (0 : Nat) y666 x12_1), .float .f64 (rdOf (0 : Nat) y669 x12_1)] ?_; (with_reducible refine (pair_Quick.calls (rdOf (0 : Nat) y666 x12_1) (rdOf (0 : Nat) y669 x12_1) t679 t680 _ A17.out).mono ?_); rintro e w35 ⟨rfl, hb⟩; refine ⟨_, rfl, ?_⟩; have n0_ := Aside0.mk (Kd.R_below (by (with_reducible repeat (first | apply rA | apply rN | apply rD)); exact HO_10.out) hb); have n1_ := Aside0.mk (Kd.R_below (by (with_reducible repeat (first | apply rA | apply rN | apply rD)); exact HO_11.out) hb); have n2_ := bs_ HB hb; clear HO_10; clear HO_11; clear HB; have HO_10 := n0_; have HO_11 := n1_; have HB := n2_; clear n0_ n1_ n2_; (try clear hb); (try clear hb2); (try clear hk); (try clear hi)) | ((with_reducible refine gate_callee (f := 19) rfl ?_); refine goesM (some 61) Try.func19 #[.float .f64 (rdOf (0 : Nat) y666 x12_1), .float .f64 (rdOf (0 : Nat) y669 x12_1)] ?_; (with_reducible refine (steelyardref05_Quick.calls k1 (rdOf (0 : Nat) y666 x12_1) (rdOf (0 : Nat) y669 x12_1) t681 t682 _ A18.out).mono ?_); rintro e w36 ⟨rfl, hb⟩; refine ⟨_, rfl, ?_⟩; have n0_ := Aside0.mk (Kd.R_below (by (with_reducible repeat (first | apply rA | apply rN | apply rD)); exact HO_10.out) hb); have n1_ := Aside0.mk (Kd.R_below (by (with_reducible repeat (first | apply rA | apply rN | apply rD)); exact HO_11.out) hb); have n2_ := bs_ HB hb; clear HO_10; clear HO_11; clear HB; have HO_10 := n0_; have HO_11 := n1_; have HB := n2_; clear n0_ n1_ n2_; (try clear hb); (try clear hb2); (try clear hk); (try clear hi)) | ((with_reducible refine gate_callee (f := 16) rfl ?_); refine goesM (some 62) Try.func16 #[.agg #[.float .f64 t679, .float .f64 t680], .agg #[.float .f64 t681, .float .f64 t682]] ?_; (with_reducible refine (steelyardref05_SamePair.calls t679 t680 t681 t682 true _ A19.out).mono ?_); rintro e w37 ⟨rfl, hb⟩; refine ⟨_, rfl, ?_⟩; have n0_ := Aside0.mk (Kd.R_below (by (with_reducible repeat (first | apply rA | apply rN | apply rD)); exact HO_10.out) hb); have n1_ := Aside0.mk (Kd.R_below (by (with_reducible repeat (first | apply rA | apply rN | apply rD)); exact HO_11.out) hb); have n2_ := bs_ HB hb; clear HO_10; clear HO_11; clear HB; have HO_10 := n0_; have HO_11 := n1_; have HB := n2_; clear n0_ n1_ n2_; (try clear hb); (try clear hb2); (try clear hk); (try clear hi)) | ((with_reducible refine gate_callee (f := 13) rfl ?_); refine goesM (some 64) Try.func13 #[.float .f64 (rdOf (0 : Nat) y666 x12_1)] ?_; (with_reducible refine (pair_Halves.calls (rdOf (0 : Nat) y666 x12_1) t684 t685 _ A20.out).mono ?_); rintro e w38 ⟨rfl, hb⟩; refine ⟨_, rfl, ?_⟩; have n0_ := Aside0.mk (Kd.R_below (by (with_reducible repeat (first | apply rA | apply rN | apply rD)); exact HO_10.out) hb); have n1_ := Aside0.mk (Kd.R_below (by (with_reducible repeat (first | apply rA | apply rN | apply rD)); exact HO_11.out) hb); have n2_ := bs_ HB hb; clear HO_10; clear HO_11; clear HB; have HO_10 := n0_; have HO_11 := n1_; have HB := n2_; clear n0_ n1_ n2_; (try clear hb); (try clear hb2); (try clear hk); (try clear hi)) | ((with_reducible refine gate_callee (f := 20) rfl ?_); refine goesM (some 66) Try.func20 #[.float .f64 (rdOf (0 : Nat) y666 x12_1)] ?_; (with_reducible refine (steelyardref05_Halves.calls k1 (rdOf (0 : Nat) y666 x12_1) t686 t687 _ A21.out).mono ?_); rintro e w39 ⟨rfl, hb⟩; refine ⟨_, rfl, ?_⟩; have n0_ := Aside0.mk (Kd.R_below (by (with_reducible repeat (first | apply rA | apply rN | apply rD)); exact HO_10.out) hb); have n1_ := Aside0.mk (Kd.R_below (by (with_reducible repeat (first | apply rA | apply rN | apply rD)); exact HO_11.out) hb); have n2_ := bs_ HB hb; clear HO_10; clear HO_11; clear HB; have HO_10 := n0_; have HO_11 := n1_; have HB := n2_; clear n0_ n1_ n2_; (try clear hb); (try clear hb2); (try clear hk); (try clear hi)) | ((with_reducible refine gate_callee (f := 16) rfl ?_); refine goesM (some 67) Try.func16 #[.agg #[.float .f64 t684, .float .f64 t685], .agg #[.float .f64 t686, .float .f64 t687]] ?_; (with_reducible refine (steelyardref05_SamePair.calls t684 t685 t686 t687 true _ A22.out).mono ?_); rintro e w40 ⟨rfl, hb⟩; refine ⟨_, rfl, ?_⟩; have n0_ := Aside0.mk (Kd.R_below (by (with_reducible repeat (first | apply rA | apply rN | apply rD)); exact HO_10.out) hb); have n1_ := Aside0.mk (Kd.R_below (by (with_reducible repeat (first | apply rA | apply rN | apply rD)); exact HO_11.out) hb); have n2_ := bs_ HB hb; clear HO_10; clear HO_11; clear HB; have HO_10 := n0_; have HO_11 := n1_; have HB := n2_; clear n0_ n1_ n2_; (try clear hb); (try clear hb2); (try clear hk); (try clear hi)) | ((with_reducible refine gate_callee (f := 14) rfl ?_); refine goesM (some 70) Try.func14 #[.float .f64 (rdOf (0 : Nat) y666 x12_1), .float .f64 (rdOf (0 : Nat) y669 x12_1)] ?_; (with_reducible refine (pair_Product.calls (rdOf (0 : Nat) y666 x12_1) (rdOf (0 : Nat) y669 x12_1) t689 t690 _ A23.out).mono ?_); rintro e w41 ⟨rfl, hb⟩; refine ⟨_, rfl, ?_⟩; have n0_ := Aside0.mk (Kd.R_below (by (with_reducible repeat (first | apply rA | apply rN | apply rD)); exact HO_10.out) hb); have n1_ := Aside0.mk (Kd.R_below (by (with_reducible repeat (first | apply rA | apply rN | apply rD)); exact HO_11.out) hb); have n2_ := bs_ HB hb; clear HO_10; clear HO_11; clear HB; have HO_10 := n0_; have HO_11 := n1_; have HB := n2_; clear n0_ n1_ n2_; (try clear hb); (try clear hb2); (try clear hk); (try clear hi)) | ((with_reducible refine gate_callee (f := 21) rfl ?_); refine goesM (some 73) Try.func21 #[.float .f64 (rdOf (0 : Nat) y666 x12_1), .float .f64 (rdOf (0 : Nat) y669 x12_1)] ?_; (with_reducible refine (steelyardref05_Product.calls k1 (rdOf (0 : Nat) y666 x12_1) (rdOf (0 : Nat) y669 x12_1) t691 t692 _ A24.out).mono ?_); rintro e w42 ⟨rfl, hb⟩; refine ⟨_, rfl, ?_⟩; have n0_ := Aside0.mk (Kd.R_below (by (with_reducible repeat (first | apply rA | apply rN | apply rD)); exact HO_10.out) hb); have n1_ := Aside0.mk (Kd.R_below (by (with_reducible repeat (first | apply rA | apply rN | apply rD)); exact HO_11.out) hb); have n2_ := bs_ HB hb; clear HO_10; clear HO_11; clear HB; have HO_10 := n0_; have HO_11 := n1_; have HB := n2_; clear n0_ n1_ n2_; (try clear hb); (try clear hb2); (try clear hk); (try clear hi)) | ((with_reducible refine gate_callee (f := 16) rfl ?_); refine goesM (some 74) Try.func16 #[.agg #[.float .f64 t689, .float .f64 t690], .agg #[.float .f64 t691, .float .f64 t692]] ?_; (with_reducible refine (steelyardref05_SamePair.calls t689 t690 t691 t692 true _ A25.out).mono ?_); rintro e w43 ⟨rfl, hb⟩; refine ⟨_, rfl, ?_⟩; have n0_ := Aside0.mk (Kd.R_below (by (with_reducible repeat (first | apply rA | apply rN | apply rD)); exact HO_10.out) hb); have n1_ := Aside0.mk (Kd.R_below (by (with_reducible repeat (first | apply rA | apply rN | apply rD)); exact HO_11.out) hb); have n2_ := bs_ HB hb; clear HO_10; clear HO_11; clear HB; have HO_10 := n0_; have HO_11 := n1_; have HB := n2_; clear n0_ n1_ n2_; (try clear hb); (try clear hb2); (try clear hk); (try clear hi)))
          go_roundg k1
          case measure => have := HK1.out; omega
          case rel => exact ⟨(wrap64 (x12_1 + 1)), (by first | rfl | (simp; done) | (simp [*]; done)), H', ⟨by have := HK1.out; omega⟩, ⟨by (with_reducible repeat (first | apply rA | apply rN | apply rD)); exact HO_10.out⟩, ⟨by (with_reducible repeat (first | apply rA | apply rN | apply rD)); exact HO_11.out⟩, ⟨bl_ HB⟩⟩
         ·replace c29 := Bool.eq_false_iff.mpr c29
          subst c29
          have H1 : (none) = some r := by rw [if_neg (show ¬ (false = true) by decide)] at H; exact H
          clear H
          have H := H1
          clear H1
          exact absurd H (by simp)
        ·replace c28 := Bool.eq_false_iff.mpr c28
         subst c28
         have H1 : (none) = some r := by rw [if_neg (show ¬ (false = true) by decide)] at H; exact H
         clear H
         have H := H1
         clear H1
         exact absurd H (by simp)
       ·replace c27 := Bool.eq_false_iff.mpr c27
        subst c27
        have H1 : (none) = some r := by rw [if_neg (show ¬ (false = true) by decide)] at H; exact H
        clear H
        have H := H1
        clear H1
        exact absurd H (by simp)
      ·replace c26 := Bool.eq_false_iff.mpr c26
       subst c26
       have H1 : (none) = some r := by rw [if_neg (show ¬ (false = true) by decide)] at H; exact H
       clear H
       have H := H1
       clear H1
       exact absurd H (by simp)
     ·rw [if_neg c13] at H
      exact absurd H (by simp)
    ·rw [if_neg c12] at H
     exact absurd H (by simp)
   ·rw [if_neg c11] at H
    have c11b0 : decide (x12_1 < (y666.length : Int)) = false := decide_eq_false c11
    clear c11
    obtain ⟨⟨t696, t697⟩, A44, H⟩ := ob_ H
    try dsimp only at H
    obtain ⟨⟨t698, t699⟩, A45, H⟩ := ob_ H
    try dsimp only at H
    obtain ⟨t700, A46, H⟩ := ob_ H
    try dsimp only at H
    obtain ⟨⟨t701, t702⟩, A47, H⟩ := ob_ H
    try dsimp only at H
    obtain ⟨⟨t703, t704⟩, A48, H⟩ := ob_ H
    try dsimp only at H
    obtain ⟨t705, A49, H⟩ := ob_ H
    try dsimp only at H
    obtain ⟨t706, A50, H⟩ := ob_ H
    try dsimp only at H
    obtain ⟨t707, A51, H⟩ := ob_ H
    try dsimp only at H
    obtain ⟨t708, A52, H⟩ := ob_ H
    try dsimp only at H
    by_cases c53 : t665 = true
    ·subst c53
     have H1 : (if t700 = true then (if t705 = true then (some t708) else (none)) else (none)) = some r := by rw [if_pos rfl] at H; exact H
     clear H
     have H := H1
     clear H1
     by_cases c54 : t700 = true
     ·subst c54
      have H1 : (if t705 = true then (some t708) else (none)) = some r := by rw [if_pos rfl] at H; exact H
      clear H
      have H := H1
      clear H1
      by_cases c55 : t705 = true
      ·subst c55
       have H1 : (some t708) = some r := by rw [if_pos rfl] at H; exact H
       clear H
       have H := H1
       clear H1
       obtain rfl := Option.some.inj H
       obtain ⟨Ao56, co56, eo56⟩ := Kd.R_slice HO_10.out
       subst eo56
       try go_wp2_with (first | ((with_reducible refine gate_dst (N := 19) rfl ?_); refine box_event ?hg (N := 19) ?hd (cs := #[.float .f64 0, .float .f64 0]) (t := 30) ?hr ?_; (case hd => rfl); (case hg => rfl); (case hr => first | (go_simp; done) | (go_simp; rfl)); intro gb694 hg w57 hbox hb; have n0_ := Aside0.mk (Kd.R_below (by (with_reducible repeat (first | apply rA | apply rN | apply rD)); exact HO_10.out) hb); have n1_ := Aside0.mk (Kd.R_below (by (with_reducible repeat (first | apply rA | apply rN | apply rD)); exact HO_11.out) hb); have n2_ := bs_ HB hb; have n3_ := Aside0.mk (hbox); have n4_ := ge_ HB hg; have n5_ := ge_ HB hg; clear HO_10; clear HO_11; clear HB; have HO_10 := n0_; have HO_11 := n1_; have HB := n2_; have BK694 := n3_; have GW694 := n4_; have GE694 := n5_; clear n0_ n1_ n2_ n3_ n4_ n5_; clear hb hbox hg; have hcz58_0 : w57.cell? ⟨gb694, 0, none⟩ = some (.float .f64 0) := (blk_cell BK694.out 0).trans rfl; have hcz58_1 : w57.cell? ⟨gb694, 1, none⟩ = some (.float .f64 0) := (blk_cell BK694.out 1).trans rfl; have hfz58_0 := blk_frozen BK694.out 0; have hfz58_1 := blk_frozen BK694.out 1) | ((with_reducible refine gate_dst (N := 20) rfl ?_); refine box_event ?hg (N := 20) ?hd (cs := #[.float .f64 0, .float .f64 0]) (t := 30) ?hr ?_; (case hd => rfl); (case hg => rfl); (case hr => first | (go_simp; done) | (go_simp; rfl)); intro gb695 hg w59 hbox hb; have n0_ := Aside0.mk (Kd.R_below (by (with_reducible repeat (first | apply rA | apply rN | apply rD)); exact (Kd.R_mono (Kd.R_far (p := ⟨gb694, 1, none⟩) (Kd.R_far (p := ⟨gb694, 0, none⟩) (Kd.R_types HO_10.out BK694.out (by decide)) (fun _ hk => hk.2) (.float .f64 a0)) (fun _ hk => hk.2) (.float .f64 a1)) (fun _ h_ => h_.1))) hb); have n1_ := Aside0.mk (Kd.R_below (by (with_reducible repeat (first | apply rA | apply rN | apply rD)); exact (Kd.R_mono (Kd.R_far (p := ⟨gb694, 1, none⟩) (Kd.R_far (p := ⟨gb694, 0, none⟩) (Kd.R_types HO_11.out BK694.out (by decide)) (fun _ hk => hk.2) (.float .f64 a0)) (fun _ hk => hk.2) (.float .f64 a1)) (fun _ h_ => h_.1))) hb); have n2_ := Aside0.mk (blk_below (g := gb694) (o := .cells #[.float .f64 a0, .float .f64 a1] 30 (0, 0)) (by (with_reducible repeat (first | apply bN | apply bD | apply bA)); refine blk_put (cs := #[.float .f64 a0, .float .f64 0]) ?_ 1 _ rfl; (with_reducible repeat (first | apply bN | apply bD | apply bA)); refine blk_put (cs := #[.float .f64 0, .float .f64 0]) ?_ 0 _ rfl; (with_reducible repeat (first | apply bN | apply bD | apply bA)); exact BK694.out) hb); have n3_ := bs_ HB hb; have n4_ := Aside0.mk (hbox); have n5_ := ge_ HB hg; have n6_ := ge_ HB hg; have n7_ := Aside0.mk ((by rw [hg]; exact Nat.ne_of_lt (blk_lt (g := gb694) (o := .cells #[.float .f64 a0, .float .f64 a1] 30 (0, 0)) (by (with_reducible repeat (first | apply bN | apply bD | apply bA)); refine blk_put (cs := #[.float .f64 a0, .float .f64 0]) ?_ 1 _ rfl; (with_reducible repeat (first | apply bN | apply bD | apply bA)); refine blk_put (cs := #[.float .f64 0, .float .f64 0]) ?_ 0 _ rfl; (with_reducible repeat (first | apply bN | apply bD | apply bA)); exact BK694.out)) : gb694 ≠ gb695)); have n8_ := Aside0.mk ((by rw [hg]; exact Nat.ne_of_gt (blk_lt (g := gb694) (o := .cells #[.float .f64 a0, .float .f64 a1] 30 (0, 0)) (by (with_reducible repeat (first | apply bN | apply bD | apply bA)); refine blk_put (cs := #[.float .f64 a0, .float .f64 0]) ?_ 1 _ rfl; (with_reducible repeat (first | apply bN | apply bD | apply bA)); refine blk_put (cs := #[.float .f64 0, .float .f64 0]) ?_ 0 _ rfl; (with_reducible repeat (first | apply bN | apply bD | apply bA)); exact BK694.out)) : gb695 ≠ gb694)); clear HO_10; clear HO_11; clear BK694; clear HB; have HO_10 := n0_; have HO_11 := n1_; have BK694 := n2_; have HB := n3_; have BK695 := n4_; have GW695 := n5_; have GE695 := n6_; have NB694_695 := n7_; have NB695_694 := n8_; clear n0_ n1_ n2_ n3_ n4_ n5_ n6_ n7_ n8_; clear hb hbox hg; have hnb60 := NB695_694.out; have hnc60 := NB694_695.out; have hcz61_0 : w59.cell? ⟨gb695, 0, none⟩ = some (.float .f64 0) := (blk_cell BK695.out 0).trans rfl; have hcz61_1 : w59.cell? ⟨gb695, 1, none⟩ = some (.float .f64 0) := (blk_cell BK695.out 1).trans rfl; have hfz61_0 := blk_frozen BK695.out 0; have hfz61_1 := blk_frozen BK695.out 1))
       have n0_ : Aside0 (Kd.R (Kd.float .f64) 23 ((w59.setCell ⟨gb695, 0, none⟩ (.float .f64 a2)).setCell ⟨gb695, 1, none⟩ (.float .f64 a3)) w.heap.size (fun k_ => some k_ ≠ (v670 : Value).ownBlock) (.slice Ao56 y666.length co56) y666) := ⟨by (with_reducible repeat (first | apply rA | apply rN | apply rD)); exact Kd.R_mono (Kd.R_far (p := ⟨gb695, 1, none⟩) (Kd.R_far (p := ⟨gb695, 0, none⟩) (Kd.R_types HO_10.out BK695.out (by decide)) (fun _ hk => hk.2) (.float .f64 a2)) (fun _ hk => hk.2) (.float .f64 a3)) (fun _ hk => hk.1)⟩
       have n1_ : Aside0 (Kd.R (Kd.float .f64) 23 ((w59.setCell ⟨gb695, 0, none⟩ (.float .f64 a2)).setCell ⟨gb695, 1, none⟩ (.float .f64 a3)) w.heap.size (fun k_ => some k_ ≠ (.slice Ao56 y666.length co56 : Value).ownBlock) v670 y669) := ⟨by (with_reducible repeat (first | apply rA | apply rN | apply rD)); exact Kd.R_mono (Kd.R_far (p := ⟨gb695, 1, none⟩) (Kd.R_far (p := ⟨gb695, 0, none⟩) (Kd.R_types HO_11.out BK695.out (by decide)) (fun _ hk => hk.2) (.float .f64 a2)) (fun _ hk => hk.2) (.float .f64 a3)) (fun _ hk => hk.1)⟩
       have n2_ : Aside0 (((w59.setCell ⟨gb695, 0, none⟩ (.float .f64 a2)).setCell ⟨gb695, 1, none⟩ (.float .f64 a3)).heap[gb694]? = some (.cells #[.float .f64 a0, .float .f64 a1] 30 (0, 0))) := ⟨by (with_reducible repeat (first | apply bN | apply bD | apply bA)); refine blk_far ?_ NB694_695.out _; (with_reducible repeat (first | apply bN | apply bD | apply bA)); refine blk_far ?_ NB694_695.out _; (with_reducible repeat (first | apply bN | apply bD | apply bA)); exact BK694.out⟩
       have n3_ : Aside0 (((w59.setCell ⟨gb695, 0, none⟩ (.float .f64 a2)).setCell ⟨gb695, 1, none⟩ (.float .f64 a3)).heap[gb695]? = some (.cells #[.float .f64 a2, .float .f64 a3] 30 (0, 0))) := ⟨by (with_reducible repeat (first | apply bN | apply bD | apply bA)); refine blk_put (cs := #[.float .f64 a2, .float .f64 0]) ?_ 1 _ rfl; (with_reducible repeat (first | apply bN | apply bD | apply bA)); refine blk_put (cs := #[.float .f64 0, .float .f64 0]) ?_ 0 _ rfl; (with_reducible repeat (first | apply bN | apply bD | apply bA)); exact BK695.out⟩
       have n4_ : Aside0 (Below w.heap.size w ((w59.setCell ⟨gb695, 0, none⟩ (.float .f64 a2)).setCell ⟨gb695, 1, none⟩ (.float .f64 a3))) := ⟨bl_ HB⟩
       (try clear HO_10)
       (try clear HO_11)
       (try clear BK694)
       (try clear BK695)
       (try clear HB)
       generalize ((w59.setCell ⟨gb695, 0, none⟩ (.float .f64 a2)).setCell ⟨gb695, 1, none⟩ (.float .f64 a3)) = w62 at n0_ n1_ n2_ n3_ n4_ ⊢
       have HO_10 := n0_
       have HO_11 := n1_
       have BK694 := n2_
       have BK695 := n3_
       have HB := n4_
       clear n0_ n1_ n2_ n3_ n4_
       have n0_ := Aside0.mk (Kd.R_drew HO_10.out)
       have n1_ := Aside0.mk (Kd.R_drew HO_11.out)
       have n2_ := Aside0.mk (blk_drew BK694.out)
       have n3_ := Aside0.mk (blk_drew BK695.out)
       have n4_ := Aside0.mk (below_drew1 HB.out)
       clear HO_10
       clear HO_11
       clear BK694
       clear BK695
       clear HB
       have HO_10 := n0_
       have HO_11 := n1_
       have BK694 := n2_
       have BK695 := n3_
       have HB := n4_
       clear n0_ n1_ n2_ n3_ n4_
       refine start_ (n := 8) (S := fun w' => w'.cell? ⟨gb694, 0, none⟩ = some (.float .f64 a0) ∧ w'.cell? ⟨gb694, 1, none⟩ = some (.float .f64 a1) ∧ w'.cell? ⟨gb695, 0, none⟩ = some (.float .f64 a2) ∧ w'.cell? ⟨gb695, 1, none⟩ = some (.float .f64 a3)) (ds := []) #[false, false, false, false, false, false, false, false] (by kernel_rfl) rfl rfl ⟨(blk_cell BK694.out 0).trans rfl, (blk_cell BK694.out 1).trans rfl, (blk_cell BK695.out 0).trans rfl, (blk_cell BK695.out 1).trans rfl⟩ (fun hHeld => ?_); refine with_tabW steelyardlaw05_PairSteps.tab17 steelyardlaw05_PairSteps.bits17 (fun HT_ HW_ => ?_)
       generalize w62.drew = w63 at HO_10 HO_11 BK694 BK695 HB hHeld ⊢
       refine take_ (i := 0) (N := some 95) (v := ?_) (a' := ?_) #[true, false, false, false, false, false, false, false] rfl rfl (take_ofW HT_.out HW_.out (by kernel_rfl)) (fun _ _ _ h => h) (Or.inl ⟨by rfl, ?_⟩) hHeld ?_ ?_
       rotate_left
       ·rintro w' ⟨s0, s1, s2, s3⟩
        go_simp
        with_reducible rfl
       rotate_left
       ·simp only [Act.put, List.setIfInBounds_toArray, List.set_cons_zero, List.set_cons_succ, i64_w, i32_w]
        rfl
       refine take_ (i := 1) (N := some 96) (v := ?_) (a' := ?_) #[true, true, false, false, false, false, false, false] rfl rfl (take_ofW HT_.out HW_.out (by kernel_rfl)) (fun _ _ _ h => h) (Or.inl ⟨by rfl, ?_⟩) hHeld ?_ ?_
       rotate_left
       ·rintro w' ⟨s0, s1, s2, s3⟩
        go_simp
        with_reducible rfl
       rotate_left
       ·simp only [Act.put, List.setIfInBounds_toArray, List.set_cons_zero, List.set_cons_succ, i64_w, i32_w]
        rfl
       refine take_ (i := 3) (N := some 98) (v := ?_) (a' := ?_) #[true, true, false, true, false, false, false, false] rfl rfl (take_ofW HT_.out HW_.out (by kernel_rfl)) (fun _ _ _ h => h) (Or.inl ⟨by rfl, ?_⟩) hHeld ?_ ?_
       rotate_left
       ·rintro w' ⟨s0, s1, s2, s3⟩
        go_simp
        with_reducible rfl
       rotate_left
       ·simp only [Act.put, List.setIfInBounds_toArray, List.set_cons_zero, List.set_cons_succ, i64_w, i32_w]
        rfl
       refine take_ (i := 4) (N := some 99) (v := ?_) (a' := ?_) #[true, true, false, true, true, false, false, false] rfl rfl (take_ofW HT_.out HW_.out (by kernel_rfl)) (fun _ _ _ h => h) (Or.inl ⟨by rfl, ?_⟩) hHeld ?_ ?_
       rotate_left
       ·rintro w' ⟨s0, s1, s2, s3⟩
        go_simp
        with_reducible rfl
       rotate_left
       ·simp only [Act.put, List.setIfInBounds_toArray, List.set_cons_zero, List.set_cons_succ, i64_w, i32_w]
        rfl
       refine one_ (i := 2) (N := some 97) #[true, true, true, true, true, false, false, false] rfl rfl (one_of HT_.out (by kernel_rfl)) (by decide) (fun K hK => ?_)
       refine goes_ Try.func22 (by kernel_rfl) rfl #[.agg #[.float .f64 a0, .float .f64 a1], .agg #[.float .f64 a2, .float .f64 a3]] (by rfl) rfl rfl (by (try simp only [List.map_toArray, List.map_cons, List.map_nil]); first | done | rfl | (simp only [List.length_drop, List.length_take]; rfl)) ?_
       with_reducible refine (pair_Add.calls a0 a1 a2 a3 t696 t697 _ A44.out).mono ?_
       rintro e w64 ⟨rfl, hb⟩
       refine ⟨_, rfl, ?_⟩
       have n0_ := Aside0.mk (Kd.R_below (by (with_reducible repeat (first | apply rA | apply rN | apply rD)); exact HO_10.out) hb)
       have n1_ := Aside0.mk (Kd.R_below (by (with_reducible repeat (first | apply rA | apply rN | apply rD)); exact HO_11.out) hb)
       have n2_ := kb_ BK694 hb
       have n3_ := kb_ BK695 hb
       have n4_ := bs_ HB hb
       clear HO_10
       clear HO_11
       clear BK694
       clear BK695
       clear HB
       have HO_10 := n0_
       have HO_11 := n1_
       have BK694 := n2_
       have BK695 := n3_
       have HB := n4_
       clear n0_ n1_ n2_ n3_ n4_
       (try clear hb)
       (try clear hb2)
       (try clear hk)
       (try clear hi)
       refine hK.out _ _ ⟨(blk_cell BK694.out 0).trans rfl, (blk_cell BK694.out 1).trans rfl, (blk_cell BK695.out 0).trans rfl, (blk_cell BK695.out 1).trans rfl⟩ (fun hHeld => ?_)
       clear hK K
       refine norm_ (a' := ?_) ?_ ?_
       rotate_left
       ·show Act.put _ (some 97) _ = _
        simp only [Act.put, List.setIfInBounds_toArray, List.set_cons_zero, List.set_cons_succ, i64_w, i32_w]
        rfl
       refine one_ (i := 5) (N := some 100) #[true, true, true, true, true, true, false, false] rfl rfl (one_of HT_.out (by kernel_rfl)) (by decide) (fun K hK => ?_)
       refine goes_ Try.func23 (by kernel_rfl) rfl #[.agg #[.float .f64 a0, .float .f64 a1], .agg #[.float .f64 a2, .float .f64 a3]] (by rfl) rfl rfl (by (try simp only [List.map_toArray, List.map_cons, List.map_nil]); first | done | rfl | (simp only [List.length_drop, List.length_take]; rfl)) ?_
       with_reducible refine (steelyardref05_Add.calls k1 a0 a1 a2 a3 t698 t699 _ A45.out).mono ?_
       rintro e w65 ⟨rfl, hb⟩
       refine ⟨_, rfl, ?_⟩
       have n0_ := Aside0.mk (Kd.R_below (by (with_reducible repeat (first | apply rA | apply rN | apply rD)); exact HO_10.out) hb)
       have n1_ := Aside0.mk (Kd.R_below (by (with_reducible repeat (first | apply rA | apply rN | apply rD)); exact HO_11.out) hb)
       have n2_ := kb_ BK694 hb
       have n3_ := kb_ BK695 hb
       have n4_ := bs_ HB hb
       clear HO_10
       clear HO_11
       clear BK694
       clear BK695
       clear HB
       have HO_10 := n0_
       have HO_11 := n1_
       have BK694 := n2_
       have BK695 := n3_
       have HB := n4_
       clear n0_ n1_ n2_ n3_ n4_
       (try clear hb)
       (try clear hb2)
       (try clear hk)
       (try clear hi)
       refine hK.out _ _ ⟨(blk_cell BK694.out 0).trans rfl, (blk_cell BK694.out 1).trans rfl, (blk_cell BK695.out 0).trans rfl, (blk_cell BK695.out 1).trans rfl⟩ (fun hHeld => ?_)
       clear hK K
       refine norm_ (a' := ?_) ?_ ?_
       rotate_left
       ·show Act.put _ (some 100) _ = _
        simp only [Act.put, List.setIfInBounds_toArray, List.set_cons_zero, List.set_cons_succ, i64_w, i32_w]
        rfl
       refine one_ (i := 6) (N := some 101) #[true, true, true, true, true, true, true, false] rfl rfl (one_of HT_.out (by kernel_rfl)) (by decide) (fun K hK => ?_)
       refine goes_ Try.func16 (by kernel_rfl) rfl #[.agg #[.float .f64 t696, .float .f64 t697], .agg #[.float .f64 t698, .float .f64 t699]] (by rfl) rfl rfl (by (try simp only [List.map_toArray, List.map_cons, List.map_nil]); first | done | rfl | (simp only [List.length_drop, List.length_take]; rfl)) ?_
       with_reducible refine (steelyardref05_SamePair.calls t696 t697 t698 t699 true _ A46.out).mono ?_
       rintro e w66 ⟨rfl, hb⟩
       refine ⟨_, rfl, ?_⟩
       have n0_ := Aside0.mk (Kd.R_below (by (with_reducible repeat (first | apply rA | apply rN | apply rD)); exact HO_10.out) hb)
       have n1_ := Aside0.mk (Kd.R_below (by (with_reducible repeat (first | apply rA | apply rN | apply rD)); exact HO_11.out) hb)
       have n2_ := kb_ BK694 hb
       have n3_ := kb_ BK695 hb
       have n4_ := bs_ HB hb
       clear HO_10
       clear HO_11
       clear BK694
       clear BK695
       clear HB
       have HO_10 := n0_
       have HO_11 := n1_
       have BK694 := n2_
       have BK695 := n3_
       have HB := n4_
       clear n0_ n1_ n2_ n3_ n4_
       (try clear hb)
       (try clear hb2)
       (try clear hk)
       (try clear hi)
       refine hK.out _ _ ⟨(blk_cell BK694.out 0).trans rfl, (blk_cell BK694.out 1).trans rfl, (blk_cell BK695.out 0).trans rfl, (blk_cell BK695.out 1).trans rfl⟩ (fun hHeld => ?_)
       clear hK K
       refine norm_ (a' := ?_) ?_ ?_
       rotate_left
       ·show Act.put _ (some 101) _ = _
        simp only [Act.put, List.setIfInBounds_toArray, List.set_cons_zero, List.set_cons_succ, i64_w, i32_w]
        rfl
       refine pure_ (i := 7) (N := some 21) (v := ?_) (a' := ?_) #[true, true, true, true, true, true, true, true] rfl rfl (any_of HT_.out (by kernel_rfl)) (fun _ _ _ h => h) (Or.inl ⟨by rfl, ?_⟩) ?_ ?_
       rotate_left
       ·intro w'
        go_simp
        with_reducible rfl
       rotate_left
       ·simp only [Act.put, List.setIfInBounds_toArray, List.set_cons_zero, List.set_cons_succ, i64_w, i32_w]
        rfl
       refine done_ (done_of HT_.out (by kernel_rfl)) ?_
       try go_wp2
       have n0_ := Aside0.mk (Kd.R_drew HO_10.out)
       have n1_ := Aside0.mk (Kd.R_drew HO_11.out)
       have n2_ := Aside0.mk (blk_drew BK694.out)
       have n3_ := Aside0.mk (blk_drew BK695.out)
       have n4_ := Aside0.mk (below_drew1 HB.out)
       clear HO_10
       clear HO_11
       clear BK694
       clear BK695
       clear HB
       have HO_10 := n0_
       have HO_11 := n1_
       have BK694 := n2_
       have BK695 := n3_
       have HB := n4_
       clear n0_ n1_ n2_ n3_ n4_
       refine start_ (n := 8) (S := fun w' => w'.cell? ⟨gb694, 0, none⟩ = some (.float .f64 a0) ∧ w'.cell? ⟨gb694, 1, none⟩ = some (.float .f64 a1) ∧ w'.cell? ⟨gb695, 0, none⟩ = some (.float .f64 a2) ∧ w'.cell? ⟨gb695, 1, none⟩ = some (.float .f64 a3)) (ds := []) #[false, false, false, false, false, false, false, false] (by kernel_rfl) rfl rfl ⟨(blk_cell BK694.out 0).trans rfl, (blk_cell BK694.out 1).trans rfl, (blk_cell BK695.out 0).trans rfl, (blk_cell BK695.out 1).trans rfl⟩ (fun hHeld => ?_); refine with_tabW steelyardlaw05_PairSteps.tab18 steelyardlaw05_PairSteps.bits18 (fun HT_ HW_ => ?_)
       generalize w66.drew = w67 at HO_10 HO_11 BK694 BK695 HB hHeld ⊢
       refine take_ (i := 0) (N := some 102) (v := ?_) (a' := ?_) #[true, false, false, false, false, false, false, false] rfl rfl (take_ofW HT_.out HW_.out (by kernel_rfl)) (fun _ _ _ h => h) (Or.inl ⟨by rfl, ?_⟩) hHeld ?_ ?_
       rotate_left
       ·rintro w' ⟨s0, s1, s2, s3⟩
        go_simp
        with_reducible rfl
       rotate_left
       ·simp only [Act.put, List.setIfInBounds_toArray, List.set_cons_zero, List.set_cons_succ, i64_w, i32_w]
        rfl
       refine take_ (i := 1) (N := some 103) (v := ?_) (a' := ?_) #[true, true, false, false, false, false, false, false] rfl rfl (take_ofW HT_.out HW_.out (by kernel_rfl)) (fun _ _ _ h => h) (Or.inl ⟨by rfl, ?_⟩) hHeld ?_ ?_
       rotate_left
       ·rintro w' ⟨s0, s1, s2, s3⟩
        go_simp
        with_reducible rfl
       rotate_left
       ·simp only [Act.put, List.setIfInBounds_toArray, List.set_cons_zero, List.set_cons_succ, i64_w, i32_w]
        rfl
       refine take_ (i := 3) (N := some 105) (v := ?_) (a' := ?_) #[true, true, false, true, false, false, false, false] rfl rfl (take_ofW HT_.out HW_.out (by kernel_rfl)) (fun _ _ _ h => h) (Or.inl ⟨by rfl, ?_⟩) hHeld ?_ ?_
       rotate_left
       ·rintro w' ⟨s0, s1, s2, s3⟩
        go_simp
        with_reducible rfl
       rotate_left
       ·simp only [Act.put, List.setIfInBounds_toArray, List.set_cons_zero, List.set_cons_succ, i64_w, i32_w]
        rfl
       refine take_ (i := 4) (N := some 106) (v := ?_) (a' := ?_) #[true, true, false, true, true, false, false, false] rfl rfl (take_ofW HT_.out HW_.out (by kernel_rfl)) (fun _ _ _ h => h) (Or.inl ⟨by rfl, ?_⟩) hHeld ?_ ?_
       rotate_left
       ·rintro w' ⟨s0, s1, s2, s3⟩
        go_simp
        with_reducible rfl
       rotate_left
       ·simp only [Act.put, List.setIfInBounds_toArray, List.set_cons_zero, List.set_cons_succ, i64_w, i32_w]
        rfl
       refine one_ (i := 2) (N := some 104) #[true, true, true, true, true, false, false, false] rfl rfl (one_of HT_.out (by kernel_rfl)) (by decide) (fun K hK => ?_)
       refine goes_ Try.func24 (by kernel_rfl) rfl #[.agg #[.float .f64 a0, .float .f64 a1], .agg #[.float .f64 a2, .float .f64 a3]] (by rfl) rfl rfl (by (try simp only [List.map_toArray, List.map_cons, List.map_nil]); first | done | rfl | (simp only [List.length_drop, List.length_take]; rfl)) ?_
       with_reducible refine (pair_Mul.calls a0 a1 a2 a3 t701 t702 _ A47.out).mono ?_
       rintro e w68 ⟨rfl, hb⟩
       refine ⟨_, rfl, ?_⟩
       have n0_ := Aside0.mk (Kd.R_below (by (with_reducible repeat (first | apply rA | apply rN | apply rD)); exact HO_10.out) hb)
       have n1_ := Aside0.mk (Kd.R_below (by (with_reducible repeat (first | apply rA | apply rN | apply rD)); exact HO_11.out) hb)
       have n2_ := kb_ BK694 hb
       have n3_ := kb_ BK695 hb
       have n4_ := bs_ HB hb
       clear HO_10
       clear HO_11
       clear BK694
       clear BK695
       clear HB
       have HO_10 := n0_
       have HO_11 := n1_
       have BK694 := n2_
       have BK695 := n3_
       have HB := n4_
       clear n0_ n1_ n2_ n3_ n4_
       (try clear hb)
       (try clear hb2)
       (try clear hk)
       (try clear hi)
       refine hK.out _ _ ⟨(blk_cell BK694.out 0).trans rfl, (blk_cell BK694.out 1).trans rfl, (blk_cell BK695.out 0).trans rfl, (blk_cell BK695.out 1).trans rfl⟩ (fun hHeld => ?_)
       clear hK K
       refine norm_ (a' := ?_) ?_ ?_
       rotate_left
       ·show Act.put _ (some 104) _ = _
        simp only [Act.put, List.setIfInBounds_toArray, List.set_cons_zero, List.set_cons_succ, i64_w, i32_w]
        rfl
       refine one_ (i := 5) (N := some 107) #[true, true, true, true, true, true, false, false] rfl rfl (one_of HT_.out (by kernel_rfl)) (by decide) (fun K hK => ?_)
       refine goes_ Try.func25 (by kernel_rfl) rfl #[.agg #[.float .f64 a0, .float .f64 a1], .agg #[.float .f64 a2, .float .f64 a3]] (by rfl) rfl rfl (by (try simp only [List.map_toArray, List.map_cons, List.map_nil]); first | done | rfl | (simp only [List.length_drop, List.length_take]; rfl)) ?_
       with_reducible refine (steelyardref05_Mul.calls k1 a0 a1 a2 a3 t703 t704 _ A48.out).mono ?_
       rintro e w69 ⟨rfl, hb⟩
       refine ⟨_, rfl, ?_⟩
       have n0_ := Aside0.mk (Kd.R_below (by (with_reducible repeat (first | apply rA | apply rN | apply rD)); exact HO_10.out) hb)
       have n1_ := Aside0.mk (Kd.R_below (by (with_reducible repeat (first | apply rA | apply rN | apply rD)); exact HO_11.out) hb)
       have n2_ := kb_ BK694 hb
       have n3_ := kb_ BK695 hb
       have n4_ := bs_ HB hb
       clear HO_10
       clear HO_11
       clear BK694
       clear BK695
       clear HB
       have HO_10 := n0_
       have HO_11 := n1_
       have BK694 := n2_
       have BK695 := n3_
       have HB := n4_
       clear n0_ n1_ n2_ n3_ n4_
       (try clear hb)
       (try clear hb2)
       (try clear hk)
       (try clear hi)
       refine hK.out _ _ ⟨(blk_cell BK694.out 0).trans rfl, (blk_cell BK694.out 1).trans rfl, (blk_cell BK695.out 0).trans rfl, (blk_cell BK695.out 1).trans rfl⟩ (fun hHeld => ?_)
       clear hK K
       refine norm_ (a' := ?_) ?_ ?_
       rotate_left
       ·show Act.put _ (some 107) _ = _
        simp only [Act.put, List.setIfInBounds_toArray, List.set_cons_zero, List.set_cons_succ, i64_w, i32_w]
        rfl
       refine one_ (i := 6) (N := some 108) #[true, true, true, true, true, true, true, false] rfl rfl (one_of HT_.out (by kernel_rfl)) (by decide) (fun K hK => ?_)
       refine goes_ Try.func16 (by kernel_rfl) rfl #[.agg #[.float .f64 t701, .float .f64 t702], .agg #[.float .f64 t703, .float .f64 t704]] (by rfl) rfl rfl (by (try simp only [List.map_toArray, List.map_cons, List.map_nil]); first | done | rfl | (simp only [List.length_drop, List.length_take]; rfl)) ?_
       with_reducible refine (steelyardref05_SamePair.calls t701 t702 t703 t704 true _ A49.out).mono ?_
       rintro e w70 ⟨rfl, hb⟩
       refine ⟨_, rfl, ?_⟩
       have n0_ := Aside0.mk (Kd.R_below (by (with_reducible repeat (first | apply rA | apply rN | apply rD)); exact HO_10.out) hb)
       have n1_ := Aside0.mk (Kd.R_below (by (with_reducible repeat (first | apply rA | apply rN | apply rD)); exact HO_11.out) hb)
       have n2_ := kb_ BK694 hb
       have n3_ := kb_ BK695 hb
       have n4_ := bs_ HB hb
       clear HO_10
       clear HO_11
       clear BK694
       clear BK695
       clear HB
       have HO_10 := n0_
       have HO_11 := n1_
       have BK694 := n2_
       have BK695 := n3_
       have HB := n4_
       clear n0_ n1_ n2_ n3_ n4_
       (try clear hb)
       (try clear hb2)
       (try clear hk)
       (try clear hi)
       refine hK.out _ _ ⟨(blk_cell BK694.out 0).trans rfl, (blk_cell BK694.out 1).trans rfl, (blk_cell BK695.out 0).trans rfl, (blk_cell BK695.out 1).trans rfl⟩ (fun hHeld => ?_)
       clear hK K
       refine norm_ (a' := ?_) ?_ ?_
       rotate_left
       ·show Act.put _ (some 108) _ = _
        simp only [Act.put, List.setIfInBounds_toArray, List.set_cons_zero, List.set_cons_succ, i64_w, i32_w]
        rfl
       refine pure_ (i := 7) (N := some 22) (v := ?_) (a' := ?_) #[true, true, true, true, true, true, true, true] rfl rfl (any_of HT_.out (by kernel_rfl)) (fun _ _ _ h => h) (Or.inl ⟨by rfl, ?_⟩) ?_ ?_
       rotate_left
       ·intro w'
        go_simp
        with_reducible rfl
       rotate_left
       ·simp only [Act.put, List.setIfInBounds_toArray, List.set_cons_zero, List.set_cons_succ, i64_w, i32_w]
        rfl
       refine done_ (done_of HT_.out (by kernel_rfl)) ?_
       try go_wp2
       have n0_ := Aside0.mk (Kd.R_drew HO_10.out)
       have n1_ := Aside0.mk (Kd.R_drew HO_11.out)
       have n2_ := Aside0.mk (blk_drew BK694.out)
       have n3_ := Aside0.mk (blk_drew BK695.out)
       have n4_ := Aside0.mk (below_drew1 HB.out)
       clear HO_10
       clear HO_11
       clear BK694
       clear BK695
       clear HB
       have HO_10 := n0_
       have HO_11 := n1_
       have BK694 := n2_
       have BK695 := n3_
       have HB := n4_
       clear n0_ n1_ n2_ n3_ n4_
       refine start_ (n := 6) (S := fun w' => w'.cell? ⟨gb694, 0, none⟩ = some (.float .f64 a0) ∧ w'.cell? ⟨gb694, 1, none⟩ = some (.float .f64 a1)) (ds := []) #[false, false, false, false, false, false] (by kernel_rfl) rfl rfl ⟨(blk_cell BK694.out 0).trans rfl, (blk_cell BK694.out 1).trans rfl⟩ (fun hHeld => ?_)
       generalize w70.drew = w71 at HO_10 HO_11 BK694 BK695 HB hHeld ⊢
       refine take_ (i := 0) (N := some 109) (v := ?_) (a' := ?_) #[true, false, false, false, false, false] rfl rfl (by kernel_rfl) (fun _ _ _ h => h) (Or.inl ⟨by rfl, ?_⟩) hHeld ?_ ?_
       rotate_left
       ·rintro w' ⟨s0, s1⟩
        go_simp
        with_reducible rfl
       rotate_left
       ·simp only [Act.put, List.setIfInBounds_toArray, List.set_cons_zero, List.set_cons_succ, i64_w, i32_w]
        rfl
       refine take_ (i := 2) (N := some 111) (v := ?_) (a' := ?_) #[true, false, true, false, false, false] rfl rfl (by kernel_rfl) (fun _ _ _ h => h) (Or.inl ⟨by rfl, ?_⟩) hHeld ?_ ?_
       rotate_left
       ·rintro w' ⟨s0, s1⟩
        go_simp
        with_reducible rfl
       rotate_left
       ·simp only [Act.put, List.setIfInBounds_toArray, List.set_cons_zero, List.set_cons_succ, i64_w, i32_w]
        rfl
       refine one_ (i := 1) (N := some 110) #[true, true, true, false, false, false] rfl rfl (by kernel_rfl) (by decide) (fun K hK => ?_)
       refine goes_ Try.func27 (by kernel_rfl) rfl #[.agg #[.float .f64 a0, .float .f64 a1]] (by rfl) rfl rfl (by (try simp only [List.map_toArray, List.map_cons, List.map_nil]); first | done | rfl | (simp only [List.length_drop, List.length_take]; rfl)) ?_
       with_reducible refine (pair_Value.calls a0 a1 t706 _ A50.out).mono ?_
       rintro e w72 ⟨rfl, hb⟩
       refine ⟨_, rfl, ?_⟩
       have n0_ := Aside0.mk (Kd.R_below (by (with_reducible repeat (first | apply rA | apply rN | apply rD)); exact HO_10.out) hb)
       have n1_ := Aside0.mk (Kd.R_below (by (with_reducible repeat (first | apply rA | apply rN | apply rD)); exact HO_11.out) hb)
       have n2_ := kb_ BK694 hb
       have n3_ := kb_ BK695 hb
       have n4_ := bs_ HB hb
       clear HO_10
       clear HO_11
       clear BK694
       clear BK695
       clear HB
       have HO_10 := n0_
       have HO_11 := n1_
       have BK694 := n2_
       have BK695 := n3_
       have HB := n4_
       clear n0_ n1_ n2_ n3_ n4_
       (try clear hb)
       (try clear hb2)
       (try clear hk)
       (try clear hi)
       refine hK.out _ _ ⟨(blk_cell BK694.out 0).trans rfl, (blk_cell BK694.out 1).trans rfl⟩ (fun hHeld => ?_)
       clear hK K
       refine norm_ (a' := ?_) ?_ ?_
       rotate_left
       ·show Act.put _ (some 110) _ = _
        simp only [Act.put, List.setIfInBounds_toArray, List.set_cons_zero, List.set_cons_succ, i64_w, i32_w]
        rfl
       refine one_ (i := 3) (N := some 112) #[true, true, true, true, false, false] rfl rfl (by kernel_rfl) (by decide) (fun K hK => ?_)
       refine goes_ Try.func28 (by kernel_rfl) rfl #[.agg #[.float .f64 a0, .float .f64 a1]] (by rfl) rfl rfl (by (try simp only [List.map_toArray, List.map_cons, List.map_nil]); first | done | rfl | (simp only [List.length_drop, List.length_take]; rfl)) ?_
       with_reducible refine (steelyardref05_Value.calls k1 a0 a1 t707 _ A51.out).mono ?_
       rintro e w73 ⟨rfl, hb⟩
       refine ⟨_, rfl, ?_⟩
       have n0_ := Aside0.mk (Kd.R_below (by (with_reducible repeat (first | apply rA | apply rN | apply rD)); exact HO_10.out) hb)
       have n1_ := Aside0.mk (Kd.R_below (by (with_reducible repeat (first | apply rA | apply rN | apply rD)); exact HO_11.out) hb)
       have n2_ := kb_ BK694 hb
       have n3_ := kb_ BK695 hb
       have n4_ := bs_ HB hb
       clear HO_10
       clear HO_11
       clear BK694
       clear BK695
       clear HB
       have HO_10 := n0_
       have HO_11 := n1_
       have BK694 := n2_
       have BK695 := n3_
       have HB := n4_
       clear n0_ n1_ n2_ n3_ n4_
       (try clear hb)
       (try clear hb2)
       (try clear hk)
       (try clear hi)
       refine hK.out _ _ ⟨(blk_cell BK694.out 0).trans rfl, (blk_cell BK694.out 1).trans rfl⟩ (fun hHeld => ?_)
       clear hK K
       refine norm_ (a' := ?_) ?_ ?_
       rotate_left
       ·show Act.put _ (some 112) _ = _
        simp only [Act.put, List.setIfInBounds_toArray, List.set_cons_zero, List.set_cons_succ, i64_w, i32_w]
        rfl
       refine one_ (i := 4) (N := some 113) #[true, true, true, true, true, false] rfl rfl (by kernel_rfl) (by decide) (fun K hK => ?_)
       refine goes_ Try.func26 (by kernel_rfl) rfl #[.float .f64 t706, .float .f64 t707] (by rfl) rfl rfl (by (try simp only [List.map_toArray, List.map_cons, List.map_nil]); first | done | rfl | (simp only [List.length_drop, List.length_take]; rfl)) ?_
       with_reducible refine (steelyardref05_Same.calls t706 t707 t708 _ A52.out).mono ?_
       rintro e w' ⟨rfl, ⟨nd, rfl⟩⟩
       refine ⟨_, rfl, ?_⟩
       refine hK.out _ _ ⟨(blk_cell BK694.out 0).trans rfl, (blk_cell BK694.out 1).trans rfl⟩ (fun hHeld => ?_)
       clear hK K
       refine norm_ (a' := ?_) ?_ ?_
       rotate_left
       ·show Act.put _ (some 113) _ = _
        simp only [Act.put, List.setIfInBounds_toArray, List.set_cons_zero, List.set_cons_succ, i64_w, i32_w]
        rfl
       refine pure_ (i := 5) (N := some 23) (v := ?_) (a' := ?_) #[true, true, true, true, true, true] rfl rfl (by kernel_rfl) (fun _ _ _ h => h) (Or.inl ⟨by rfl, ?_⟩) ?_ ?_
       rotate_left
       ·intro w'
        go_simp
        with_reducible rfl
       rotate_left
       ·simp only [Act.put, List.setIfInBounds_toArray, List.set_cons_zero, List.set_cons_succ, i64_w, i32_w]
        rfl
       refine done_ (by kernel_rfl) ?_
       try go_wp2
       go_ret
       exact ⟨by first | rfl | (simp [errW_none, errW_some] <;> rfl) | (simp [*, errW_none, errW_some] <;> rfl), bl_ HB⟩
      ·replace c55 := Bool.eq_false_iff.mpr c55
       subst c55
       have H1 : (none) = some r := by rw [if_neg (show ¬ (false = true) by decide)] at H; exact H
       clear H
       have H := H1
       clear H1
       exact absurd H (by simp)
     ·replace c54 := Bool.eq_false_iff.mpr c54
      subst c54
      have H1 : (none) = some r := by rw [if_neg (show ¬ (false = true) by decide)] at H; exact H
      clear H
      have H := H1
      clear H1
      exact absurd H (by simp)
    ·replace c53 := Bool.eq_false_iff.mpr c53
     subst c53
     have H1 : (none) = some r := by rw [if_neg (show ¬ (false = true) by decide)] at H; exact H
     clear H
     have H := H1
     clear H1
     exact absurd H (by simp)

/-- THE ONE PURE STATEMENT of steelyardlaw05_PairSteps: yours. -/
def steelyardlaw05_PairSteps.Pure : Prop := ∀ (a0 : Nat) (a1 : Nat) (a2 : Nat) (a3 : Nat), (Lit.float .f64 a0).wf = true → (Lit.float .f64 a1).wf = true → (Lit.float .f64 a2).wf = true → (Lit.float .f64 a3).wf = true → ∃ k, steelyardlaw05_PairSteps.f k a0 a1 a2 a3 = some true

end Go.Proofs.Ytdemanikmaafeaa.Pr
