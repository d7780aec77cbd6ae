-- short
-- written by this session's own program (wip/fprint.py), which widens the kit's print by floats
import Derived.Test.YtdemanikmaafeaaPr0
import Derived.Test.YtdemanikmaafeaaPr13
import Derived.Test.YtdemanikmaafeaaPr16
import Derived.Test.YtdemanikmaafeaaPr20
namespace Go.Proofs.Ytdemanikmaafeaa.Pr
open Go.RowKit Go.Proofs.YtdemanikmaafeaaW.PrintWords Go.Proofs.YtdemanikmaafeaaW.PrintLast Go.Proofs.YtdemanikmaafeaaW.PrintMore
attribute [local go_sem] max2_int min2_int max_two min_two max_three min_three max_four min_four   -- for this text's walks alone
set_option linter.unusedVariables false
set_option linter.unusedSimpArgs false

/-! ### steelyardref03_Round: function 70 -/
def steelyardref03_Round.j0 : Nat → Int → Bool → Bool → List Int → Int → Option (Nat × Int)
 | 0, _, _, _, _, _ => none
 | k + 1, x1, x14, x495000, x495001, x495002 => if x14 = true then (some (0, 1)) else ((steelyardref03_Made.f k x495000 x495001 x495002).bind fun bt495 => (if bt495.2.2.2 = true then ((steelyardref03_Of64.f).bind fun bt502 => ((steelyardref03_Size_Nearby.f k bt502.1 bt502.2.1 bt502.2.2 bt495.1 bt495.2.1 bt495.2.2.1 x1).bind fun t505 => (if bt495.1 = true then (some ((IntKind.u64.wrap (t505 + 9223372036854775808) : Int).toNat, 0)) else (some ((t505 : Int).toNat, 0))))) else (some (0, 2))))
def steelyardref03_Round.f (k : Nat) (a0_0 : Bool) (l0_1 : List Int) (a0_2 : Int) (a1 : Int) : Option (Nat × Int) := if a1 < 0 then (steelyardref03_Round.j0 k a1 true a0_0 l0_1 a0_2) else (steelyardref03_Round.j0 k a1 (decide (a1 > 4)) a0_0 l0_1 a0_2)
theorem steelyardref03_Round.mono_l : ∀ k, (∀ y0 y1 y2 y3 y4, LeO (steelyardref03_Round.j0 k y0 y1 y2 y3 y4) (steelyardref03_Round.j0 (k + 1) y0 y1 y2 y3 y4))
 | 0 => fun _ _ _ _ _ r h => by simp [steelyardref03_Round.j0] at h
 | k + 1 => by
  have ih0 := steelyardref03_Round.mono_l k
  ·intro y0 y1 y2 y3 y4
   unfold steelyardref03_Round.j0
   repeat' first
   | (with_reducible exact ih0 _ _ _ _ _)
   | (with_reducible exact steelyardref03_Made.mono _ _ _ _)
   | (with_reducible exact steelyardref03_Size_Nearby.mono _ _ _ _ _ _ _ _)
   | (with_reducible exact LeO.refl _)
   | (with_reducible exact LeO.none _)
   | (with_reducible refine LeO.ite ?_ ?_)
   | (with_reducible refine LeO.bind ?_ (fun _ => ?_))
   | exact ih0 _ _ _ _ _
   | exact steelyardref03_Made.mono _ _ _ _
   | exact steelyardref03_Size_Nearby.mono _ _ _ _ _ _ _ _
   | exact LeO.none _
   | refine LeO.ite ?_ ?_
   | refine LeO.bind ?_ (fun _ => ?_)
theorem steelyardref03_Round.mono : ∀ a0 a1 a2 a3 k, LeO (steelyardref03_Round.f k a0 a1 a2 a3) (steelyardref03_Round.f (k + 1) a0 a1 a2 a3) := by
 intro a0 a1 a2 a3 k
 have ih0 := steelyardref03_Round.mono_l k
 unfold steelyardref03_Round.f
 repeat' first
   | (with_reducible exact ih0 _ _ _ _ _)
   | (with_reducible exact steelyardref03_Made.mono _ _ _ _)
   | (with_reducible exact steelyardref03_Size_Nearby.mono _ _ _ _ _ _ _ _)
   | (with_reducible exact LeO.refl _)
   | (with_reducible exact LeO.none _)
   | (with_reducible refine LeO.ite ?_ ?_)
   | (with_reducible refine LeO.bind ?_ (fun _ => ?_))
   | exact ih0 _ _ _ _ _
   | exact steelyardref03_Made.mono _ _ _ _
   | exact steelyardref03_Size_Nearby.mono _ _ _ _ _ _ _ _
   | exact LeO.none _
   | refine LeO.ite ?_ ?_
   | refine LeO.bind ?_ (fun _ => ?_)
def steelyardref03_Round.T6 : Bool × List (List Nat × List Nat) := (true, [([], []), ([], []), ([1], [1]), ([], []), ([3], [3]), ([], []), ([5], [5]), ([], []), ([0, 2, 4, 6, 7, 0], [0, 2, 4, 6, 7]), ([8, 8, 0, 1, 2, 3, 4, 5, 6, 7, 8], [8])])
def steelyardref03_Round.B6 : List Nat := [0, 0, 2, 0, 8, 0, 32, 0, 255, 511]
theorem steelyardref03_Round.tab6 : rtab .any (opsOf Try.f70 6) = steelyardref03_Round.T6 := by kernel_rfl
theorem steelyardref03_Round.bits6 : waitsOk steelyardref03_Round.T6.2 steelyardref03_Round.B6 = true := by kernel_rfl
set_option maxHeartbeats 3000000 in
set_option maxRecDepth 100000 in
theorem steelyardref03_Round.calls (k : Nat) (a0_0 : Bool) (A0_1 : Option Addr) (c0_1 : Nat) (l0_1 : List Int) (a0_2 : Int) (a1 : Int) (r1 : Nat) (r2 : Int) (w : World) (hr0_1 : Kd.C (Kd.int .u32) w A0_1 l0_1.length l0_1) (hc0_1 : l0_1.length ≤ c0_1) (h : steelyardref03_Round.f k a0_0 l0_1 a0_2 a1 = some (r1, r2)) :
  Calls Try.prog 70 #[.agg #[.bool a0_0, .slice A0_1 l0_1.length c0_1, .int .i64 a0_2], .int .i64 a1] w fun e w' => e = .returned (.tuple #[.float .f64 r1, .int .i64 r2]) ∧ Below w.heap.size w w' := by
 have hu43 := Try.underlying43
 have HR0_1 := Aside0.mk hr0_1
 have HC0_1 := Aside0.mk hc0_1
 clear hr0_1 hc0_1
 have HB := Aside0.mk (Below.refl w.heap.size w)
 have H : (if a1 < 0 then (steelyardref03_Round.j0 k a1 true a0_0 l0_1 a0_2) else (steelyardref03_Round.j0 k a1 (decide (a1 > 4)) a0_0 l0_1 a0_2)) = some (r1, r2) := h
 clear h
 have HC3 := Aside0.mk H
 clear H
 go_enter Try.func70, Try.ntmps70
 go_upto_region 1 with (first | ((with_reducible refine gate_dst (N := 2) rfl ?_); refine box_event ?hg (N := 2) ?hd (cs := #[.bool a0_0, .slice A0_1 l0_1.length c0_1, .int .i64 a0_2]) (t := 43) ?hr ?_; (case hd => rfl); (case hg => rfl); (case hr => first | (go_simp; done) | (go_simp; rfl)); intro gb494 hg w4 hbox hb; have n0_ := bs_ HB hb; have n1_ := Aside0.mk (hbox); have n2_ := ge_ HB hg; have n3_ := ge_ HB hg; clear HB; have HB := n0_; have BK494 := n1_; have GW494 := n2_; have GE494 := n3_; clear n0_ n1_ n2_ n3_; clear hb hbox hg))
 (try simp only [Act.put, List.setIfInBounds_toArray, List.set_cons_zero, List.set_cons_succ])
 go_cut [14] (fun v14 wc => ∃ (kq : Nat) (x14_2 : Bool), v14 = .bool x14_2 ∧ Aside0 (steelyardref03_Round.j0 kq a1 x14_2 a0_0 l0_1 a0_2 = some (r1, r2)) ∧ Aside0 (kq ≤ k) ∧ Aside0 (wc.heap[gb494]? = some (.cells #[.bool a0_0, (.slice A0_1 l0_1.length c0_1), .int .i64 a0_2] 43 (0, 0))) ∧ Aside0 (Below w.heap.size w wc))
 case first =>
  have H := HC3.out
  clear HC3
  by_cases c5 : a1 < 0
  ·rw [if_pos c5] at H
   have c5b0 : decide (a1 < 0) = true := decide_eq_true c5
   clear c5
   (first | rw [c5b0] | (simp only [i64_w, i32_w]; rw [c5b0]) | skip)
   have H' := Aside0.mk H
   clear H
   go_wp2
   go_meet
   case rel => exact ⟨_, (true), (by first | rfl | (simp; done) | (simp [*]; done)), H', ⟨by first | omega | exact Nat.le_refl _⟩, ⟨by (with_reducible repeat (first | apply bN | apply bD | apply bA)); exact BK494.out⟩, ⟨bl_ HB⟩⟩
  ·rw [if_neg c5] at H
   have c5b0 : decide (a1 < 0) = false := decide_eq_false c5
   clear c5
   (first | rw [c5b0] | (simp only [i64_w, i32_w]; rw [c5b0]) | skip)
   have H' := Aside0.mk H
   clear H
   go_wp2
   go_meet
   case rel => exact ⟨_, (decide (a1 > 4)), (by first | rfl | (simp; done) | (simp [*]; done)), H', ⟨by first | omega | exact Nat.le_refl _⟩, ⟨by (with_reducible repeat (first | apply bN | apply bD | apply bA)); exact BK494.out⟩, ⟨bl_ HB⟩⟩
 case rest =>
  clear HC3
  try clear p2
  try clear c5
  try clear c5b0
  obtain ⟨kq, x14_2, rfl, HA, HJ2, BK494, HB⟩ := hcut
  cases kq with
  | zero => exact absurd HA.out (by simp [steelyardref03_Round.j0])
  | succ kj2 =>
   have H := HA.out
   clear HA
   simp only [steelyardref03_Round.j0] at H
   by_cases c6 : x14_2 = true
   ·subst c6
    have H1 : (some (0, 1)) = some (r1, r2) := by rw [if_pos rfl] at H; exact H
    clear H
    have H := H1
    clear H1
    simp only [Option.some.injEq, Prod.mk.injEq] at H
    obtain ⟨rfl, rfl⟩ := H
    go_wp2
    go_ret2
    exact ⟨by first | rfl | (simp [errW_none, errW_some] <;> rfl) | (simp [*, errW_none, errW_some] <;> rfl), bl_ HB⟩
   ·replace c6 := Bool.eq_false_iff.mpr c6
    subst c6
    have H1 : ((steelyardref03_Made.f kj2 a0_0 l0_1 a0_2).bind fun bt495 => (if bt495.2.2.2 = true then ((steelyardref03_Of64.f).bind fun bt502 => ((steelyardref03_Size_Nearby.f kj2 bt502.1 bt502.2.1 bt502.2.2 bt495.1 bt495.2.1 bt495.2.2.1 a1).bind fun t505 => (if bt495.1 = true then (some ((IntKind.u64.wrap (t505 + 9223372036854775808) : Int).toNat, 0)) else (some ((t505 : Int).toNat, 0))))) else (some (0, 2)))) = some (r1, r2) := by rw [if_neg (show ¬ (false = true) by decide)] at H; exact H
    clear H
    have H := H1
    clear H1
    obtain ⟨⟨t495, t496, t499, t500⟩, A7, H⟩ := ob_ H
    try dsimp only at H
    by_cases c8 : t500 = true
    ·subst c8
     have H1 : ((steelyardref03_Of64.f).bind fun bt502 => ((steelyardref03_Size_Nearby.f kj2 bt502.1 bt502.2.1 bt502.2.2 t495 t496 t499 a1).bind fun t505 => (if t495 = true then (some ((IntKind.u64.wrap (t505 + 9223372036854775808) : Int).toNat, 0)) else (some ((t505 : Int).toNat, 0))))) = some (r1, r2) := by rw [if_pos rfl] at H; exact H
     clear H
     have H := H1
     clear H1
     obtain ⟨⟨t502, t503, t504⟩, A9, H⟩ := ob_ H
     try dsimp only at H
     obtain ⟨t505, A10, H⟩ := ob_ H
     try dsimp only at H
     by_cases c11 : t495 = true
     ·subst c11
      have H1 : (some ((IntKind.u64.wrap (t505 + 9223372036854775808) : Int).toNat, 0)) = some (r1, r2) := by rw [if_pos rfl] at H; exact H
      clear H
      have H := H1
      clear H1
      simp only [Option.some.injEq, Prod.mk.injEq] at H
      obtain ⟨rfl, rfl⟩ := H
      have hcz12_0 : wc.cell? ⟨gb494, 0, none⟩ = some (.bool a0_0) := (blk_cell BK494.out 0).trans rfl
      have hcz12_1 : wc.cell? ⟨gb494, 1, none⟩ = some (.slice A0_1 l0_1.length c0_1) := (blk_cell BK494.out 1).trans rfl
      have hcz12_2 : wc.cell? ⟨gb494, 2, none⟩ = some (.int .i64 a0_2) := (blk_cell BK494.out 2).trans rfl
      have hfz12_0 := blk_frozen BK494.out 0
      have hfz12_1 := blk_frozen BK494.out 1
      have hfz12_2 := blk_frozen BK494.out 2
      try go_wp2_with (first | ((with_reducible refine gate_callee (f := 57) rfl ?_); refine goesM (some 17) Try.func57 #[.agg #[.bool a0_0, .slice A0_1 l0_1.length c0_1, .int .i64 a0_2]] ?_; (with_reducible refine (steelyardref03_Made.calls kj2 a0_0 _ _ l0_1 a0_2 true t496 t499 true _ ?side1 ?side2 A7.out).mono ?_); (case side1 => repeat (first | exact (Kd.C_below HR0_1.out HB.out) | (with_reducible first | apply cA | apply cN | apply cD))); (case side2 => exact HC0_1.out); rintro e w13 ⟨v497, rfl, ho0, hb⟩; refine ⟨_, rfl, ?_⟩; have n0_ := Aside0.mk (Kd.R_lower ho0 (below_size (bl_ HB))); have n1_ := kb_ BK494 hb; have n2_ := bs_ HB hb; clear BK494; clear HB; have HO498 := n0_; have BK494 := n1_; have HB := n2_; clear n0_ n1_ n2_; (try clear hb); (try clear hb2); (try clear hk); (try clear hi); (try clear ho0)) | ((with_reducible refine gate_dst (N := 6) rfl ?_); refine box_event ?hg (N := 6) ?hd (cs := #[.bool false, .slice none 0 0, .int .i64 0]) (t := 43) ?hr ?_; (case hd => rfl); (case hg => rfl); (case hr => first | (go_simp; done) | (go_simp; rfl)); intro gb501 hg w14 hbox hb; have n0_ := Aside0.mk (Kd.R_below (by (with_reducible repeat (first | apply rA | apply rN | apply rD)); exact HO498.out) hb); have n1_ := kb_ BK494 hb; have n2_ := bs_ HB hb; have n3_ := Aside0.mk (hbox); have n4_ := ge_ HB hg; have n5_ := ge_ HB hg; have n6_ := nlt_ BK494 hg; have n7_ := ngt_ BK494 hg; clear HO498; clear BK494; clear HB; have HO498 := n0_; have BK494 := n1_; have HB := n2_; have BK501 := n3_; have GW501 := n4_; have GE501 := n5_; have NB494_501 := n6_; have NB501_494 := n7_; clear n0_ n1_ n2_ n3_ n4_ n5_ n6_ n7_; clear hb hbox hg; have hnb15 := NB501_494.out; have hnc15 := NB494_501.out; have hcz16_0 : w14.cell? ⟨gb501, 0, none⟩ = some (.bool false) := (blk_cell BK501.out 0).trans rfl; have hcz16_1 : w14.cell? ⟨gb501, 1, none⟩ = some (.slice none 0 0) := (blk_cell BK501.out 1).trans rfl; have hcz16_2 : w14.cell? ⟨gb501, 2, none⟩ = some (.int .i64 0) := (blk_cell BK501.out 2).trans rfl; have hfz16_0 := blk_frozen BK501.out 0; have hfz16_1 := blk_frozen BK501.out 1; have hfz16_2 := blk_frozen BK501.out 2; obtain ⟨Ao17, co17, eo17⟩ := Kd.R_slice HO498.out; subst eo17))
      have n0_ : Aside0 (Kd.R (Kd.int .u32) 72 (((w14.setCell ⟨gb501, 0, none⟩ (.bool true)).setCell ⟨gb501, 1, none⟩ (.slice Ao17 t496.length co17)).setCell ⟨gb501, 2, none⟩ (.int .i64 t499)) w.heap.size (fun _ => True) (.slice Ao17 t496.length co17) t496) := ⟨by (with_reducible repeat (first | apply rA | apply rN | apply rD)); exact Kd.R_mono (Kd.R_far (p := ⟨gb501, 2, none⟩) (Kd.R_far (p := ⟨gb501, 1, none⟩) (Kd.R_far (p := ⟨gb501, 0, none⟩) (Kd.R_types HO498.out BK501.out (by decide)) (fun _ hk => hk.2) (.bool true)) (fun _ hk => hk.2) (.slice Ao17 t496.length co17)) (fun _ hk => hk.2) (.int .i64 t499)) (fun _ hk => trivial)⟩
      have n1_ : Aside0 ((((w14.setCell ⟨gb501, 0, none⟩ (.bool true)).setCell ⟨gb501, 1, none⟩ (.slice Ao17 t496.length co17)).setCell ⟨gb501, 2, none⟩ (.int .i64 t499)).heap[gb494]? = some (.cells #[.bool a0_0, .slice A0_1 l0_1.length c0_1, .int .i64 a0_2] 43 (0, 0))) := ⟨by (with_reducible repeat (first | apply bN | apply bD | apply bA)); refine blk_far ?_ NB494_501.out _; (with_reducible repeat (first | apply bN | apply bD | apply bA)); refine blk_far ?_ NB494_501.out _; (with_reducible repeat (first | apply bN | apply bD | apply bA)); refine blk_far ?_ NB494_501.out _; (with_reducible repeat (first | apply bN | apply bD | apply bA)); exact BK494.out⟩
      have n2_ : Aside0 ((((w14.setCell ⟨gb501, 0, none⟩ (.bool true)).setCell ⟨gb501, 1, none⟩ (.slice Ao17 t496.length co17)).setCell ⟨gb501, 2, none⟩ (.int .i64 t499)).heap[gb501]? = some (.cells #[.bool true, .slice Ao17 t496.length co17, .int .i64 t499] 43 (0, 0))) := ⟨by (with_reducible repeat (first | apply bN | apply bD | apply bA)); refine blk_put (cs := #[.bool true, .slice Ao17 t496.length co17, .int .i64 0]) ?_ 2 _ rfl; (with_reducible repeat (first | apply bN | apply bD | apply bA)); refine blk_put (cs := #[.bool true, .slice none 0 0, .int .i64 0]) ?_ 1 _ rfl; (with_reducible repeat (first | apply bN | apply bD | apply bA)); refine blk_put (cs := #[.bool false, .slice none 0 0, .int .i64 0]) ?_ 0 _ rfl; (with_reducible repeat (first | apply bN | apply bD | apply bA)); exact BK501.out⟩
      have n3_ : Aside0 (Below w.heap.size w (((w14.setCell ⟨gb501, 0, none⟩ (.bool true)).setCell ⟨gb501, 1, none⟩ (.slice Ao17 t496.length co17)).setCell ⟨gb501, 2, none⟩ (.int .i64 t499))) := ⟨bl_ HB⟩
      (try clear HO498)
      (try clear BK494)
      (try clear BK501)
      (try clear HB)
      generalize (((w14.setCell ⟨gb501, 0, none⟩ (.bool true)).setCell ⟨gb501, 1, none⟩ (.slice Ao17 t496.length co17)).setCell ⟨gb501, 2, none⟩ (.int .i64 t499)) = w18 at n0_ n1_ n2_ n3_ ⊢
      have HO498 := n0_
      have BK494 := n1_
      have BK501 := n2_
      have HB := n3_
      clear n0_ n1_ n2_ n3_
      have n0_ := Aside0.mk (Kd.R_drew HO498.out)
      have n1_ := Aside0.mk (blk_drew BK494.out)
      have n2_ := Aside0.mk (blk_drew BK501.out)
      have n3_ := Aside0.mk (below_drew1 HB.out)
      clear HO498
      clear BK494
      clear BK501
      clear HB
      have HO498 := n0_
      have BK494 := n1_
      have BK501 := n2_
      have HB := n3_
      clear n0_ n1_ n2_ n3_
      refine start_ (n := 10) (S := fun w' => w'.cell? ⟨gb501, 0, none⟩ = some (.bool true) ∧ w'.cell? ⟨gb501, 1, none⟩ = some (.slice Ao17 t496.length co17) ∧ w'.cell? ⟨gb501, 2, none⟩ = some (.int .i64 t499)) (ds := []) #[false, false, false, false, false, false, false, false, false, false] (by kernel_rfl) rfl rfl ⟨(blk_cell BK501.out 0).trans rfl, (blk_cell BK501.out 1).trans rfl, (blk_cell BK501.out 2).trans rfl⟩ (fun hHeld => ?_); refine with_tabW steelyardref03_Round.tab6 steelyardref03_Round.bits6 (fun HT_ HW_ => ?_)
      generalize w18.drew = w19 at HO498 BK494 BK501 HB hHeld ⊢
      refine pure_ (i := 1) (N := some 23) (v := ?_) (a' := ?_) #[false, true, false, false, false, false, false, false, false, false] rfl rfl (any_of HT_.out (by kernel_rfl)) (fun _ _ _ h => h) (Or.inl ⟨by rfl, ?_⟩) ?_ ?_
      rotate_left
      ·intro w'
       go_simp
       with_reducible rfl
      rotate_left
      ·simp only [Act.put, List.setIfInBounds_toArray, List.set_cons_zero, List.set_cons_succ, i64_w, i32_w]
       rfl
      refine pure_ (i := 3) (N := some 25) (v := ?_) (a' := ?_) #[false, true, false, true, false, false, false, false, false, false] rfl rfl (any_of HT_.out (by kernel_rfl)) (fun _ _ _ h => h) (Or.inl ⟨by rfl, ?_⟩) ?_ ?_
      rotate_left
      ·intro w'
       go_simp
       with_reducible rfl
      rotate_left
      ·simp only [Act.put, List.setIfInBounds_toArray, List.set_cons_zero, List.set_cons_succ, i64_w, i32_w]
       rfl
      refine pure_ (i := 5) (N := some 27) (v := ?_) (a' := ?_) #[false, true, false, true, false, true, false, false, false, false] rfl rfl (any_of HT_.out (by kernel_rfl)) (fun _ _ _ h => h) (Or.inl ⟨by rfl, ?_⟩) ?_ ?_
      rotate_left
      ·intro w'
       go_simp
       with_reducible rfl
      rotate_left
      ·simp only [Act.put, List.setIfInBounds_toArray, List.set_cons_zero, List.set_cons_succ, i64_w, i32_w]
       rfl
      refine pure_ (i := 7) (N := some 29) (v := ?_) (a' := ?_) #[false, true, false, true, false, true, false, true, false, false] rfl rfl (any_of HT_.out (by kernel_rfl)) (fun _ _ _ h => h) (Or.inl ⟨by rfl, ?_⟩) ?_ ?_
      rotate_left
      ·intro w'
       go_simp
       with_reducible rfl
      rotate_left
      ·simp only [Act.put, List.setIfInBounds_toArray, List.set_cons_zero, List.set_cons_succ, i64_w, i32_w]
       rfl
      refine take_ (i := 2) (N := some 24) (v := ?_) (a' := ?_) #[false, true, true, true, false, true, false, true, false, false] rfl rfl (take_ofW HT_.out HW_.out (by kernel_rfl)) (fun _ _ _ h => h) (Or.inl ⟨by rfl, ?_⟩) hHeld ?_ ?_
      rotate_left
      ·rintro w' ⟨s0, s1, s2⟩
       go_simp
       with_reducible rfl
      rotate_left
      ·simp only [Act.put, List.setIfInBounds_toArray, List.set_cons_zero, List.set_cons_succ, i64_w, i32_w]
       rfl
      refine take_ (i := 4) (N := some 26) (v := ?_) (a' := ?_) #[false, true, true, true, true, true, false, true, false, false] rfl rfl (take_ofW HT_.out HW_.out (by kernel_rfl)) (fun _ _ _ h => h) (Or.inl ⟨by rfl, ?_⟩) hHeld ?_ ?_
      rotate_left
      ·rintro w' ⟨s0, s1, s2⟩
       go_simp
       with_reducible rfl
      rotate_left
      ·simp only [Act.put, List.setIfInBounds_toArray, List.set_cons_zero, List.set_cons_succ, i64_w, i32_w]
       rfl
      refine take_ (i := 6) (N := some 28) (v := ?_) (a' := ?_) #[false, true, true, true, true, true, true, true, false, false] rfl rfl (take_ofW HT_.out HW_.out (by kernel_rfl)) (fun _ _ _ h => h) (Or.inl ⟨by rfl, ?_⟩) hHeld ?_ ?_
      rotate_left
      ·rintro w' ⟨s0, s1, s2⟩
       go_simp
       with_reducible rfl
      rotate_left
      ·simp only [Act.put, List.setIfInBounds_toArray, List.set_cons_zero, List.set_cons_succ, i64_w, i32_w]
       rfl
      refine one_ (i := 0) (N := some 22) #[true, true, true, true, true, true, true, true, false, false] rfl rfl (one_of HT_.out (by kernel_rfl)) (by decide) (fun K hK => ?_)
      refine goes_ Try.func71 (by kernel_rfl) rfl #[] (by rfl) rfl rfl (by (try simp only [List.map_toArray, List.map_cons, List.map_nil]); first | done | rfl | (simp only [List.length_drop, List.length_take]; rfl)) ?_
      with_reducible refine (steelyardref03_Of64.calls  t502 t503 t504 _ A9.out).mono ?_
      rintro e w20 ⟨rfl, hb⟩
      refine ⟨_, rfl, ?_⟩
      have n0_ := Aside0.mk (Kd.R_below (by (with_reducible repeat (first | apply rA | apply rN | apply rD)); exact HO498.out) hb)
      have n1_ := kb_ BK494 hb
      have n2_ := kb_ BK501 hb
      have n3_ := bs_ HB hb
      clear HO498
      clear BK494
      clear BK501
      clear HB
      have HO498 := n0_
      have BK494 := n1_
      have BK501 := n2_
      have HB := n3_
      clear n0_ n1_ n2_ n3_
      (try clear hb)
      (try clear hb2)
      (try clear hk)
      (try clear hi)
      refine hK.out _ _ ⟨(blk_cell BK501.out 0).trans rfl, (blk_cell BK501.out 1).trans rfl, (blk_cell BK501.out 2).trans rfl⟩ (fun hHeld => ?_)
      clear hK K
      refine norm_ (a' := ?_) ?_ ?_
      rotate_left
      ·show Act.put _ (some 22) _ = _
       simp only [Act.put, List.setIfInBounds_toArray, List.set_cons_zero, List.set_cons_succ, i64_w, i32_w]
       rfl
      refine one_ (i := 8) (N := some 30) #[true, true, true, true, true, true, true, true, true, false] rfl rfl (one_of HT_.out (by kernel_rfl)) (by decide) (fun K hK => ?_)
      refine goes_ Try.func81 (by kernel_rfl) rfl #[.agg #[.int .i64 t502, .int .i64 t503, .int .u64 t504], .bool true, .slice Ao17 t496.length co17, .int .i64 t499, .int .i64 a1] (by rfl) rfl rfl (by (try simp only [List.map_toArray, List.map_cons, List.map_nil]); first | done | rfl | (simp only [List.length_drop, List.length_take]; rfl)) ?_
      with_reducible refine (steelyardref03_Size_Nearby.calls kj2 t502 t503 t504 true _ _ t496 t499 a1 t505 _ ?side1 ?side2 A10.out).mono ?_
      (case side1 => repeat (first | exact (Kd.R_reads' HO498.out).2.2 | (with_reducible first | apply cA | apply cN | apply cD)))
      (case side2 => exact (Kd.R_reads' HO498.out).2.1)
      rintro e w21 ⟨rfl, hb⟩
      refine ⟨_, rfl, ?_⟩
      have n0_ := Aside0.mk (Kd.R_below (by (with_reducible repeat (first | apply rA | apply rN | apply rD)); exact HO498.out) hb)
      have n1_ := kb_ BK494 hb
      have n2_ := kb_ BK501 hb
      have n3_ := bs_ HB hb
      clear HO498
      clear BK494
      clear BK501
      clear HB
      have HO498 := n0_
      have BK494 := n1_
      have BK501 := n2_
      have HB := n3_
      clear n0_ n1_ n2_ n3_
      (try clear hb)
      (try clear hb2)
      (try clear hk)
      (try clear hi)
      refine hK.out _ _ ⟨(blk_cell BK501.out 0).trans rfl, (blk_cell BK501.out 1).trans rfl, (blk_cell BK501.out 2).trans rfl⟩ (fun hHeld => ?_)
      clear hK K
      refine norm_ (a' := ?_) ?_ ?_
      rotate_left
      ·show Act.put _ (some 30) _ = _
       simp only [Act.put, List.setIfInBounds_toArray, List.set_cons_zero, List.set_cons_succ, i64_w, i32_w]
       rfl
      refine pure_ (i := 9) (N := some 8) (v := ?_) (a' := ?_) #[true, true, true, true, true, true, true, true, true, true] rfl rfl (any_of HT_.out (by kernel_rfl)) (fun _ _ _ h => h) (Or.inl ⟨by rfl, ?_⟩) ?_ ?_
      rotate_left
      ·intro w'
       go_simp
       with_reducible rfl
      rotate_left
      ·simp only [Act.put, List.setIfInBounds_toArray, List.set_cons_zero, List.set_cons_succ, i64_w, i32_w]
       rfl
      refine done_ (done_of HT_.out (by kernel_rfl)) ?_
      have hcz22_0 : w21.cell? ⟨gb501, 0, none⟩ = some (.bool true) := (blk_cell BK501.out 0).trans rfl
      have hcz22_1 : w21.cell? ⟨gb501, 1, none⟩ = some (.slice Ao17 t496.length co17) := (blk_cell BK501.out 1).trans rfl
      have hcz22_2 : w21.cell? ⟨gb501, 2, none⟩ = some (.int .i64 t499) := (blk_cell BK501.out 2).trans rfl
      have hfz22_0 := blk_frozen BK501.out 0
      have hfz22_1 := blk_frozen BK501.out 1
      have hfz22_2 := blk_frozen BK501.out 2
      try go_wp2
      go_ret2
      exact ⟨by first | rfl | (simp [errW_none, errW_some] <;> rfl) | (simp [*, errW_none, errW_some] <;> rfl), bl_ HB⟩
     ·replace c11 := Bool.eq_false_iff.mpr c11
      subst c11
      have H1 : (some ((t505 : Int).toNat, 0)) = some (r1, r2) := by rw [if_neg (show ¬ (false = true) by decide)] at H; exact H
      clear H
      have H := H1
      clear H1
      simp only [Option.some.injEq, Prod.mk.injEq] at H
      obtain ⟨rfl, rfl⟩ := H
      have hcz23_0 : wc.cell? ⟨gb494, 0, none⟩ = some (.bool a0_0) := (blk_cell BK494.out 0).trans rfl
      have hcz23_1 : wc.cell? ⟨gb494, 1, none⟩ = some (.slice A0_1 l0_1.length c0_1) := (blk_cell BK494.out 1).trans rfl
      have hcz23_2 : wc.cell? ⟨gb494, 2, none⟩ = some (.int .i64 a0_2) := (blk_cell BK494.out 2).trans rfl
      have hfz23_0 := blk_frozen BK494.out 0
      have hfz23_1 := blk_frozen BK494.out 1
      have hfz23_2 := blk_frozen BK494.out 2
      try go_wp2_with (first | ((with_reducible refine gate_callee (f := 57) rfl ?_); refine goesM (some 17) Try.func57 #[.agg #[.bool a0_0, .slice A0_1 l0_1.length c0_1, .int .i64 a0_2]] ?_; (with_reducible refine (steelyardref03_Made.calls kj2 a0_0 _ _ l0_1 a0_2 false t496 t499 true _ ?side1 ?side2 A7.out).mono ?_); (case side1 => repeat (first | exact (Kd.C_below HR0_1.out HB.out) | (with_reducible first | apply cA | apply cN | apply cD))); (case side2 => exact HC0_1.out); rintro e w24 ⟨v497, rfl, ho0, hb⟩; refine ⟨_, rfl, ?_⟩; have n0_ := Aside0.mk (Kd.R_lower ho0 (below_size (bl_ HB))); have n1_ := kb_ BK494 hb; have n2_ := bs_ HB hb; clear BK494; clear HB; have HO498 := n0_; have BK494 := n1_; have HB := n2_; clear n0_ n1_ n2_; (try clear hb); (try clear hb2); (try clear hk); (try clear hi); (try clear ho0)) | ((with_reducible refine gate_dst (N := 6) rfl ?_); refine box_event ?hg (N := 6) ?hd (cs := #[.bool false, .slice none 0 0, .int .i64 0]) (t := 43) ?hr ?_; (case hd => rfl); (case hg => rfl); (case hr => first | (go_simp; done) | (go_simp; rfl)); intro gb501 hg w25 hbox hb; have n0_ := Aside0.mk (Kd.R_below (by (with_reducible repeat (first | apply rA | apply rN | apply rD)); exact HO498.out) hb); have n1_ := kb_ BK494 hb; have n2_ := bs_ HB hb; have n3_ := Aside0.mk (hbox); have n4_ := ge_ HB hg; have n5_ := ge_ HB hg; have n6_ := nlt_ BK494 hg; have n7_ := ngt_ BK494 hg; clear HO498; clear BK494; clear HB; have HO498 := n0_; have BK494 := n1_; have HB := n2_; have BK501 := n3_; have GW501 := n4_; have GE501 := n5_; have NB494_501 := n6_; have NB501_494 := n7_; clear n0_ n1_ n2_ n3_ n4_ n5_ n6_ n7_; clear hb hbox hg; have hnb26 := NB501_494.out; have hnc26 := NB494_501.out; have hcz27_0 : w25.cell? ⟨gb501, 0, none⟩ = some (.bool false) := (blk_cell BK501.out 0).trans rfl; have hcz27_1 : w25.cell? ⟨gb501, 1, none⟩ = some (.slice none 0 0) := (blk_cell BK501.out 1).trans rfl; have hcz27_2 : w25.cell? ⟨gb501, 2, none⟩ = some (.int .i64 0) := (blk_cell BK501.out 2).trans rfl; have hfz27_0 := blk_frozen BK501.out 0; have hfz27_1 := blk_frozen BK501.out 1; have hfz27_2 := blk_frozen BK501.out 2; obtain ⟨Ao28, co28, eo28⟩ := Kd.R_slice HO498.out; subst eo28))
      have n0_ : Aside0 (Kd.R (Kd.int .u32) 72 (((w25.setCell ⟨gb501, 0, none⟩ (.bool false)).setCell ⟨gb501, 1, none⟩ (.slice Ao28 t496.length co28)).setCell ⟨gb501, 2, none⟩ (.int .i64 t499)) w.heap.size (fun _ => True) (.slice Ao28 t496.length co28) t496) := ⟨by (with_reducible repeat (first | apply rA | apply rN | apply rD)); exact Kd.R_mono (Kd.R_far (p := ⟨gb501, 2, none⟩) (Kd.R_far (p := ⟨gb501, 1, none⟩) (Kd.R_far (p := ⟨gb501, 0, none⟩) (Kd.R_types HO498.out BK501.out (by decide)) (fun _ hk => hk.2) (.bool false)) (fun _ hk => hk.2) (.slice Ao28 t496.length co28)) (fun _ hk => hk.2) (.int .i64 t499)) (fun _ hk => trivial)⟩
      have n1_ : Aside0 ((((w25.setCell ⟨gb501, 0, none⟩ (.bool false)).setCell ⟨gb501, 1, none⟩ (.slice Ao28 t496.length co28)).setCell ⟨gb501, 2, none⟩ (.int .i64 t499)).heap[gb494]? = some (.cells #[.bool a0_0, .slice A0_1 l0_1.length c0_1, .int .i64 a0_2] 43 (0, 0))) := ⟨by (with_reducible repeat (first | apply bN | apply bD | apply bA)); refine blk_far ?_ NB494_501.out _; (with_reducible repeat (first | apply bN | apply bD | apply bA)); refine blk_far ?_ NB494_501.out _; (with_reducible repeat (first | apply bN | apply bD | apply bA)); refine blk_far ?_ NB494_501.out _; (with_reducible repeat (first | apply bN | apply bD | apply bA)); exact BK494.out⟩
      have n2_ : Aside0 ((((w25.setCell ⟨gb501, 0, none⟩ (.bool false)).setCell ⟨gb501, 1, none⟩ (.slice Ao28 t496.length co28)).setCell ⟨gb501, 2, none⟩ (.int .i64 t499)).heap[gb501]? = some (.cells #[.bool false, .slice Ao28 t496.length co28, .int .i64 t499] 43 (0, 0))) := ⟨by (with_reducible repeat (first | apply bN | apply bD | apply bA)); refine blk_put (cs := #[.bool false, .slice Ao28 t496.length co28, .int .i64 0]) ?_ 2 _ rfl; (with_reducible repeat (first | apply bN | apply bD | apply bA)); refine blk_put (cs := #[.bool false, .slice none 0 0, .int .i64 0]) ?_ 1 _ rfl; (with_reducible repeat (first | apply bN | apply bD | apply bA)); refine blk_put (cs := #[.bool false, .slice none 0 0, .int .i64 0]) ?_ 0 _ rfl; (with_reducible repeat (first | apply bN | apply bD | apply bA)); exact BK501.out⟩
      have n3_ : Aside0 (Below w.heap.size w (((w25.setCell ⟨gb501, 0, none⟩ (.bool false)).setCell ⟨gb501, 1, none⟩ (.slice Ao28 t496.length co28)).setCell ⟨gb501, 2, none⟩ (.int .i64 t499))) := ⟨bl_ HB⟩
      (try clear HO498)
      (try clear BK494)
      (try clear BK501)
      (try clear HB)
      generalize (((w25.setCell ⟨gb501, 0, none⟩ (.bool false)).setCell ⟨gb501, 1, none⟩ (.slice Ao28 t496.length co28)).setCell ⟨gb501, 2, none⟩ (.int .i64 t499)) = w29 at n0_ n1_ n2_ n3_ ⊢
      have HO498 := n0_
      have BK494 := n1_
      have BK501 := n2_
      have HB := n3_
      clear n0_ n1_ n2_ n3_
      have n0_ := Aside0.mk (Kd.R_drew HO498.out)
      have n1_ := Aside0.mk (blk_drew BK494.out)
      have n2_ := Aside0.mk (blk_drew BK501.out)
      have n3_ := Aside0.mk (below_drew1 HB.out)
      clear HO498
      clear BK494
      clear BK501
      clear HB
      have HO498 := n0_
      have BK494 := n1_
      have BK501 := n2_
      have HB := n3_
      clear n0_ n1_ n2_ n3_
      refine start_ (n := 10) (S := fun w' => w'.cell? ⟨gb501, 0, none⟩ = some (.bool false) ∧ w'.cell? ⟨gb501, 1, none⟩ = some (.slice Ao28 t496.length co28) ∧ w'.cell? ⟨gb501, 2, none⟩ = some (.int .i64 t499)) (ds := []) #[false, false, false, false, false, false, false, false, false, false] (by kernel_rfl) rfl rfl ⟨(blk_cell BK501.out 0).trans rfl, (blk_cell BK501.out 1).trans rfl, (blk_cell BK501.out 2).trans rfl⟩ (fun hHeld => ?_); refine with_tabW steelyardref03_Round.tab6 steelyardref03_Round.bits6 (fun HT_ HW_ => ?_)
      generalize w29.drew = w30 at HO498 BK494 BK501 HB hHeld ⊢
      refine pure_ (i := 1) (N := some 23) (v := ?_) (a' := ?_) #[false, true, false, false, false, false, false, false, false, false] rfl rfl (any_of HT_.out (by kernel_rfl)) (fun _ _ _ h => h) (Or.inl ⟨by rfl, ?_⟩) ?_ ?_
      rotate_left
      ·intro w'
       go_simp
       with_reducible rfl
      rotate_left
      ·simp only [Act.put, List.setIfInBounds_toArray, List.set_cons_zero, List.set_cons_succ, i64_w, i32_w]
       rfl
      refine pure_ (i := 3) (N := some 25) (v := ?_) (a' := ?_) #[false, true, false, true, false, false, false, false, false, false] rfl rfl (any_of HT_.out (by kernel_rfl)) (fun _ _ _ h => h) (Or.inl ⟨by rfl, ?_⟩) ?_ ?_
      rotate_left
      ·intro w'
       go_simp
       with_reducible rfl
      rotate_left
      ·simp only [Act.put, List.setIfInBounds_toArray, List.set_cons_zero, List.set_cons_succ, i64_w, i32_w]
       rfl
      refine pure_ (i := 5) (N := some 27) (v := ?_) (a' := ?_) #[false, true, false, true, false, true, false, false, false, false] rfl rfl (any_of HT_.out (by kernel_rfl)) (fun _ _ _ h => h) (Or.inl ⟨by rfl, ?_⟩) ?_ ?_
      rotate_left
      ·intro w'
       go_simp
       with_reducible rfl
      rotate_left
      ·simp only [Act.put, List.setIfInBounds_toArray, List.set_cons_zero, List.set_cons_succ, i64_w, i32_w]
       rfl
      refine pure_ (i := 7) (N := some 29) (v := ?_) (a' := ?_) #[false, true, false, true, false, true, false, true, false, false] rfl rfl (any_of HT_.out (by kernel_rfl)) (fun _ _ _ h => h) (Or.inl ⟨by rfl, ?_⟩) ?_ ?_
      rotate_left
      ·intro w'
       go_simp
       with_reducible rfl
      rotate_left
      ·simp only [Act.put, List.setIfInBounds_toArray, List.set_cons_zero, List.set_cons_succ, i64_w, i32_w]
       rfl
      refine take_ (i := 2) (N := some 24) (v := ?_) (a' := ?_) #[false, true, true, true, false, true, false, true, false, false] rfl rfl (take_ofW HT_.out HW_.out (by kernel_rfl)) (fun _ _ _ h => h) (Or.inl ⟨by rfl, ?_⟩) hHeld ?_ ?_
      rotate_left
      ·rintro w' ⟨s0, s1, s2⟩
       go_simp
       with_reducible rfl
      rotate_left
      ·simp only [Act.put, List.setIfInBounds_toArray, List.set_cons_zero, List.set_cons_succ, i64_w, i32_w]
       rfl
      refine take_ (i := 4) (N := some 26) (v := ?_) (a' := ?_) #[false, true, true, true, true, true, false, true, false, false] rfl rfl (take_ofW HT_.out HW_.out (by kernel_rfl)) (fun _ _ _ h => h) (Or.inl ⟨by rfl, ?_⟩) hHeld ?_ ?_
      rotate_left
      ·rintro w' ⟨s0, s1, s2⟩
       go_simp
       with_reducible rfl
      rotate_left
      ·simp only [Act.put, List.setIfInBounds_toArray, List.set_cons_zero, List.set_cons_succ, i64_w, i32_w]
       rfl
      refine take_ (i := 6) (N := some 28) (v := ?_) (a' := ?_) #[false, true, true, true, true, true, true, true, false, false] rfl rfl (take_ofW HT_.out HW_.out (by kernel_rfl)) (fun _ _ _ h => h) (Or.inl ⟨by rfl, ?_⟩) hHeld ?_ ?_
      rotate_left
      ·rintro w' ⟨s0, s1, s2⟩
       go_simp
       with_reducible rfl
      rotate_left
      ·simp only [Act.put, List.setIfInBounds_toArray, List.set_cons_zero, List.set_cons_succ, i64_w, i32_w]
       rfl
      refine one_ (i := 0) (N := some 22) #[true, true, true, true, true, true, true, true, false, false] rfl rfl (one_of HT_.out (by kernel_rfl)) (by decide) (fun K hK => ?_)
      refine goes_ Try.func71 (by kernel_rfl) rfl #[] (by rfl) rfl rfl (by (try simp only [List.map_toArray, List.map_cons, List.map_nil]); first | done | rfl | (simp only [List.length_drop, List.length_take]; rfl)) ?_
      with_reducible refine (steelyardref03_Of64.calls  t502 t503 t504 _ A9.out).mono ?_
      rintro e w31 ⟨rfl, hb⟩
      refine ⟨_, rfl, ?_⟩
      have n0_ := Aside0.mk (Kd.R_below (by (with_reducible repeat (first | apply rA | apply rN | apply rD)); exact HO498.out) hb)
      have n1_ := kb_ BK494 hb
      have n2_ := kb_ BK501 hb
      have n3_ := bs_ HB hb
      clear HO498
      clear BK494
      clear BK501
      clear HB
      have HO498 := n0_
      have BK494 := n1_
      have BK501 := n2_
      have HB := n3_
      clear n0_ n1_ n2_ n3_
      (try clear hb)
      (try clear hb2)
      (try clear hk)
      (try clear hi)
      refine hK.out _ _ ⟨(blk_cell BK501.out 0).trans rfl, (blk_cell BK501.out 1).trans rfl, (blk_cell BK501.out 2).trans rfl⟩ (fun hHeld => ?_)
      clear hK K
      refine norm_ (a' := ?_) ?_ ?_
      rotate_left
      ·show Act.put _ (some 22) _ = _
       simp only [Act.put, List.setIfInBounds_toArray, List.set_cons_zero, List.set_cons_succ, i64_w, i32_w]
       rfl
      refine one_ (i := 8) (N := some 30) #[true, true, true, true, true, true, true, true, true, false] rfl rfl (one_of HT_.out (by kernel_rfl)) (by decide) (fun K hK => ?_)
      refine goes_ Try.func81 (by kernel_rfl) rfl #[.agg #[.int .i64 t502, .int .i64 t503, .int .u64 t504], .bool false, .slice Ao28 t496.length co28, .int .i64 t499, .int .i64 a1] (by rfl) rfl rfl (by (try simp only [List.map_toArray, List.map_cons, List.map_nil]); first | done | rfl | (simp only [List.length_drop, List.length_take]; rfl)) ?_
      with_reducible refine (steelyardref03_Size_Nearby.calls kj2 t502 t503 t504 false _ _ t496 t499 a1 t505 _ ?side1 ?side2 A10.out).mono ?_
      (case side1 => repeat (first | exact (Kd.R_reads' HO498.out).2.2 | (with_reducible first | apply cA | apply cN | apply cD)))
      (case side2 => exact (Kd.R_reads' HO498.out).2.1)
      rintro e w32 ⟨rfl, hb⟩
      refine ⟨_, rfl, ?_⟩
      have n0_ := Aside0.mk (Kd.R_below (by (with_reducible repeat (first | apply rA | apply rN | apply rD)); exact HO498.out) hb)
      have n1_ := kb_ BK494 hb
      have n2_ := kb_ BK501 hb
      have n3_ := bs_ HB hb
      clear HO498
      clear BK494
      clear BK501
      clear HB
      have HO498 := n0_
      have BK494 := n1_
      have BK501 := n2_
      have HB := n3_
      clear n0_ n1_ n2_ n3_
      (try clear hb)
      (try clear hb2)
      (try clear hk)
      (try clear hi)
      refine hK.out _ _ ⟨(blk_cell BK501.out 0).trans rfl, (blk_cell BK501.out 1).trans rfl, (blk_cell BK501.out 2).trans rfl⟩ (fun hHeld => ?_)
      clear hK K
      refine norm_ (a' := ?_) ?_ ?_
      rotate_left
      ·show Act.put _ (some 30) _ = _
       simp only [Act.put, List.setIfInBounds_toArray, List.set_cons_zero, List.set_cons_succ, i64_w, i32_w]
       rfl
      refine pure_ (i := 9) (N := some 8) (v := ?_) (a' := ?_) #[true, true, true, true, true, true, true, true, true, true] rfl rfl (any_of HT_.out (by kernel_rfl)) (fun _ _ _ h => h) (Or.inl ⟨by rfl, ?_⟩) ?_ ?_
      rotate_left
      ·intro w'
       go_simp
       with_reducible rfl
      rotate_left
      ·simp only [Act.put, List.setIfInBounds_toArray, List.set_cons_zero, List.set_cons_succ, i64_w, i32_w]
       rfl
      refine done_ (done_of HT_.out (by kernel_rfl)) ?_
      have hcz33_0 : w32.cell? ⟨gb501, 0, none⟩ = some (.bool false) := (blk_cell BK501.out 0).trans rfl
      have hcz33_1 : w32.cell? ⟨gb501, 1, none⟩ = some (.slice Ao28 t496.length co28) := (blk_cell BK501.out 1).trans rfl
      have hcz33_2 : w32.cell? ⟨gb501, 2, none⟩ = some (.int .i64 t499) := (blk_cell BK501.out 2).trans rfl
      have hfz33_0 := blk_frozen BK501.out 0
      have hfz33_1 := blk_frozen BK501.out 1
      have hfz33_2 := blk_frozen BK501.out 2
      try go_wp2
      go_ret2
      exact ⟨by first | rfl | (simp [errW_none, errW_some] <;> rfl) | (simp [*, errW_none, errW_some] <;> rfl), bl_ HB⟩
    ·replace c8 := Bool.eq_false_iff.mpr c8
     subst c8
     have H1 : (some (0, 2)) = some (r1, r2) := by rw [if_neg (show ¬ (false = true) by decide)] at H; exact H
     clear H
     have H := H1
     clear H1
     simp only [Option.some.injEq, Prod.mk.injEq] at H
     obtain ⟨rfl, rfl⟩ := H
     have hcz34_0 : wc.cell? ⟨gb494, 0, none⟩ = some (.bool a0_0) := (blk_cell BK494.out 0).trans rfl
     have hcz34_1 : wc.cell? ⟨gb494, 1, none⟩ = some (.slice A0_1 l0_1.length c0_1) := (blk_cell BK494.out 1).trans rfl
     have hcz34_2 : wc.cell? ⟨gb494, 2, none⟩ = some (.int .i64 a0_2) := (blk_cell BK494.out 2).trans rfl
     have hfz34_0 := blk_frozen BK494.out 0
     have hfz34_1 := blk_frozen BK494.out 1
     have hfz34_2 := blk_frozen BK494.out 2
     go_wp2_with (first | ((with_reducible refine gate_callee (f := 57) rfl ?_); refine goesM (some 17) Try.func57 #[.agg #[.bool a0_0, .slice A0_1 l0_1.length c0_1, .int .i64 a0_2]] ?_; (with_reducible refine (steelyardref03_Made.calls kj2 a0_0 _ _ l0_1 a0_2 t495 t496 t499 false _ ?side1 ?side2 A7.out).mono ?_); (case side1 => repeat (first | exact (Kd.C_below HR0_1.out HB.out) | (with_reducible first | apply cA | apply cN | apply cD))); (case side2 => exact HC0_1.out); rintro e w35 ⟨v497, rfl, ho0, hb⟩; refine ⟨_, rfl, ?_⟩; have n0_ := Aside0.mk (Kd.R_lower ho0 (below_size (bl_ HB))); have n1_ := kb_ BK494 hb; have n2_ := bs_ HB hb; clear BK494; clear HB; have HO498 := n0_; have BK494 := n1_; have HB := n2_; clear n0_ n1_ n2_; (try clear hb); (try clear hb2); (try clear hk); (try clear hi); (try clear ho0)) | ((with_reducible refine gate_dst (N := 6) rfl ?_); refine box_event ?hg (N := 6) ?hd (cs := #[.bool false, .slice none 0 0, .int .i64 0]) (t := 43) ?hr ?_; (case hd => rfl); (case hg => rfl); (case hr => first | (go_simp; done) | (go_simp; rfl)); intro gb501 hg w36 hbox hb; have n0_ := Aside0.mk (Kd.R_below (by (with_reducible repeat (first | apply rA | apply rN | apply rD)); exact HO498.out) hb); have n1_ := kb_ BK494 hb; have n2_ := bs_ HB hb; have n3_ := Aside0.mk (hbox); have n4_ := ge_ HB hg; have n5_ := ge_ HB hg; have n6_ := nlt_ BK494 hg; have n7_ := ngt_ BK494 hg; clear HO498; clear BK494; clear HB; have HO498 := n0_; have BK494 := n1_; have HB := n2_; have BK501 := n3_; have GW501 := n4_; have GE501 := n5_; have NB494_501 := n6_; have NB501_494 := n7_; clear n0_ n1_ n2_ n3_ n4_ n5_ n6_ n7_; clear hb hbox hg; have hnb37 := NB501_494.out; have hnc37 := NB494_501.out; have hcz38_0 : w36.cell? ⟨gb501, 0, none⟩ = some (.bool false) := (blk_cell BK501.out 0).trans rfl; have hcz38_1 : w36.cell? ⟨gb501, 1, none⟩ = some (.slice none 0 0) := (blk_cell BK501.out 1).trans rfl; have hcz38_2 : w36.cell? ⟨gb501, 2, none⟩ = some (.int .i64 0) := (blk_cell BK501.out 2).trans rfl; have hfz38_0 := blk_frozen BK501.out 0; have hfz38_1 := blk_frozen BK501.out 1; have hfz38_2 := blk_frozen BK501.out 2; obtain ⟨Ao39, co39, eo39⟩ := Kd.R_slice HO498.out; subst eo39))
     go_ret2
     exact ⟨by first | rfl | (simp [errW_none, errW_some] <;> rfl) | (simp [*, errW_none, errW_some] <;> rfl), bl_ HB⟩

end Go.Proofs.Ytdemanikmaafeaa.Pr
