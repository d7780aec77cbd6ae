-- short
-- written by this session's own program (wip/fprint.py), which widens the kit's print by floats
import Derived.Test.YtdemanikmaafeaaPr0
import Derived.Test.YtdemanikmaafeaaPr8
import Derived.Test.YtdemanikmaafeaaPr11
import Derived.Test.YtdemanikmaafeaaPr17
namespace Go.Proofs.Ytdemanikmaafeaa.Pr
open Go.RowKit Go.Proofs.YtdemanikmaafeaaW.PrintWords Go.Proofs.YtdemanikmaafeaaW.PrintLast Go.Proofs.YtdemanikmaafeaaW.PrintMore
attribute [local go_sem] max2_int min2_int max_two min_two max_three min_three max_four min_four   -- for this text's walks alone
set_option linter.unusedVariables false
set_option linter.unusedSimpArgs false

/-! ### steelyardref03_Against: function 74 -/
mutual
def steelyardref03_Against.j0 : Nat → List Int → Int → List Int → Int → Int → Int → Bool → Option (Int)
 | 0, _, _, _, _, _, _, _ => none
 | k + 1, x0, x1, x2, x3, x9, x10, x23 => if x23 = true then ((steelyardref02_Cmp.f k x0 x2).bind fun t452 => (some t452)) else (if x1 < x3 then ((steelyardref03_Against.f k x2 x3 x0 x1).bind fun t453 => (some (wrap64 (-t453)))) else (if (IntKind.u64.wrap ((IntKind.u64.wrap (x1)) - (IntKind.u64.wrap (x3)))) > 1099511627776 then (steelyardref03_Against.j1 k x0 x2 x9 x10 (IntKind.u64.wrap ((IntKind.u64.wrap (x1)) - (IntKind.u64.wrap (x3)))) true) else (steelyardref03_Against.j1 k x0 x2 x9 x10 (IntKind.u64.wrap ((IntKind.u64.wrap (x1)) - (IntKind.u64.wrap (x3)))) (decide ((IntKind.u64.wrap (x9 + (IntKind.u64.wrap ((IntKind.u64.wrap (x1)) - (IntKind.u64.wrap (x3)))))) > x10)))))
def steelyardref03_Against.j1 : Nat → List Int → List Int → Int → Int → Int → Bool → Option (Int)
 | 0, _, _, _, _, _, _ => none
 | k + 1, x0, x2, x9, x10, x11, x49 => if x49 = true then (some 1) else (if (IntKind.u64.wrap (x9 + x11)) < x10 then (some (-1)) else ((steelyardref02_Moved.f k x0 (wrap64 (x11))).bind fun t454 => ((steelyardref02_Cmp.f k t454 x2).bind fun t457 => (some t457))))
def steelyardref03_Against.f : Nat → List Int → Int → List Int → Int → Option (Int)
 | 0, _, _, _, _ => none
 | k + 1, l0, a1, l2, a3 => (steelyardref02_Len.f k l0).bind fun t450 => ((steelyardref02_Len.f k l2).bind fun t451 => (if (IntKind.u64.wrap (t450)) = 0 then (steelyardref03_Against.j0 k l0 a1 l2 a3 (IntKind.u64.wrap (t450)) (IntKind.u64.wrap (t451)) true) else (steelyardref03_Against.j0 k l0 a1 l2 a3 (IntKind.u64.wrap (t450)) (IntKind.u64.wrap (t451)) ((IntKind.u64.wrap (t451)) == 0))))
end
theorem steelyardref03_Against.mono_l : ∀ k, (∀ y0 y1 y2 y3, LeO (steelyardref03_Against.f k y0 y1 y2 y3) (steelyardref03_Against.f (k + 1) y0 y1 y2 y3)) ∧ (∀ y0 y1 y2 y3 y4 y5 y6, LeO (steelyardref03_Against.j0 k y0 y1 y2 y3 y4 y5 y6) (steelyardref03_Against.j0 (k + 1) y0 y1 y2 y3 y4 y5 y6)) ∧ (∀ y0 y1 y2 y3 y4 y5, LeO (steelyardref03_Against.j1 k y0 y1 y2 y3 y4 y5) (steelyardref03_Against.j1 (k + 1) y0 y1 y2 y3 y4 y5))
 | 0 => ⟨fun _ _ _ _ r h => by simp [steelyardref03_Against.f] at h, fun _ _ _ _ _ _ _ r h => by simp [steelyardref03_Against.j0] at h, fun _ _ _ _ _ _ r h => by simp [steelyardref03_Against.j1] at h⟩
 | k + 1 => by
  obtain ⟨ih0, ih1, ih2⟩ := steelyardref03_Against.mono_l k
  refine ⟨?_, ?_, ?_⟩
  ·intro y0 y1 y2 y3
   unfold steelyardref03_Against.f
   repeat' first
   | (with_reducible exact ih0 _ _ _ _)
   | (with_reducible exact ih1 _ _ _ _ _ _ _)
   | (with_reducible exact ih2 _ _ _ _ _ _)
   | (with_reducible exact steelyardref02_Cmp.mono _ _ _)
   | (with_reducible exact steelyardref02_Len.mono _ _)
   | (with_reducible exact steelyardref02_Moved.mono _ _ _)
   | (with_reducible exact LeO.refl _)
   | (with_reducible exact LeO.none _)
   | (with_reducible refine LeO.ite ?_ ?_)
   | (with_reducible refine LeO.bind ?_ (fun _ => ?_))
   | exact ih0 _ _ _ _
   | exact ih1 _ _ _ _ _ _ _
   | exact ih2 _ _ _ _ _ _
   | exact steelyardref02_Cmp.mono _ _ _
   | exact steelyardref02_Len.mono _ _
   | exact steelyardref02_Moved.mono _ _ _
   | exact LeO.none _
   | refine LeO.ite ?_ ?_
   | refine LeO.bind ?_ (fun _ => ?_)
  ·intro y0 y1 y2 y3 y4 y5 y6
   unfold steelyardref03_Against.j0
   repeat' first
   | (with_reducible exact ih0 _ _ _ _)
   | (with_reducible exact ih1 _ _ _ _ _ _ _)
   | (with_reducible exact ih2 _ _ _ _ _ _)
   | (with_reducible exact steelyardref02_Cmp.mono _ _ _)
   | (with_reducible exact steelyardref02_Len.mono _ _)
   | (with_reducible exact steelyardref02_Moved.mono _ _ _)
   | (with_reducible exact LeO.refl _)
   | (with_reducible exact LeO.none _)
   | (with_reducible refine LeO.ite ?_ ?_)
   | (with_reducible refine LeO.bind ?_ (fun _ => ?_))
   | exact ih0 _ _ _ _
   | exact ih1 _ _ _ _ _ _ _
   | exact ih2 _ _ _ _ _ _
   | exact steelyardref02_Cmp.mono _ _ _
   | exact steelyardref02_Len.mono _ _
   | exact steelyardref02_Moved.mono _ _ _
   | exact LeO.none _
   | refine LeO.ite ?_ ?_
   | refine LeO.bind ?_ (fun _ => ?_)
  ·intro y0 y1 y2 y3 y4 y5
   unfold steelyardref03_Against.j1
   repeat' first
   | (with_reducible exact ih0 _ _ _ _)
   | (with_reducible exact ih1 _ _ _ _ _ _ _)
   | (with_reducible exact ih2 _ _ _ _ _ _)
   | (with_reducible exact steelyardref02_Cmp.mono _ _ _)
   | (with_reducible exact steelyardref02_Len.mono _ _)
   | (with_reducible exact steelyardref02_Moved.mono _ _ _)
   | (with_reducible exact LeO.refl _)
   | (with_reducible exact LeO.none _)
   | (with_reducible refine LeO.ite ?_ ?_)
   | (with_reducible refine LeO.bind ?_ (fun _ => ?_))
   | exact ih0 _ _ _ _
   | exact ih1 _ _ _ _ _ _ _
   | exact ih2 _ _ _ _ _ _
   | exact steelyardref02_Cmp.mono _ _ _
   | exact steelyardref02_Len.mono _ _
   | exact steelyardref02_Moved.mono _ _ _
   | exact LeO.none _
   | refine LeO.ite ?_ ?_
   | refine LeO.bind ?_ (fun _ => ?_)
theorem steelyardref03_Against.mono : ∀ a0 a1 a2 a3 k, LeO (steelyardref03_Against.f k a0 a1 a2 a3) (steelyardref03_Against.f (k + 1) a0 a1 a2 a3) := by
 intro a0 a1 a2 a3 k
 obtain ⟨ih0, ih1, ih2⟩ := steelyardref03_Against.mono_l k
 exact ih0 a0 a1 a2 a3
set_option maxHeartbeats 3000000 in
set_option maxRecDepth 100000 in
theorem steelyardref03_Against.calls (k : Nat) : ∀ (A0 : Option Addr) (c0 : Nat) (l0 : List Int) (a1 : Int) (A2 : Option Addr) (c2 : Nat) (l2 : List Int) (a3 : Int) (r : Int) (w : World) (hr0 : Kd.C (Kd.int .u32) w A0 l0.length l0) (hc0 : l0.length ≤ c0) (hr2 : Kd.C (Kd.int .u32) w A2 l2.length l2) (hc2 : l2.length ≤ c2) (h : steelyardref03_Against.f k l0 a1 l2 a3 = some r),
  Calls Try.prog 74 #[.slice A0 l0.length c0, .int .i64 a1, .slice A2 l2.length c2, .int .i64 a3] w fun e w' => e = .returned (.int .i64 r) ∧ Below w.heap.size w w' := by
 induction k using Nat.strongRecOn with
 | _ k ih =>
 intro A0 c0 l0 a1 A2 c2 l2 a3 r w hr0 hc0 hr2 hc2 h
 cases k with
 | zero => exact absurd h (by simp [steelyardref03_Against.f])
 | succ k =>
 simp only [steelyardref03_Against.f] at h
 have HR0 := Aside0.mk hr0
 have HC0 := Aside0.mk hc0
 clear hr0 hc0
 have HR2 := Aside0.mk hr2
 have HC2 := Aside0.mk hc2
 clear hr2 hc2
 have HB := Aside0.mk (Below.refl w.heap.size w)
 have H : ((steelyardref02_Len.f k l0).bind fun t450 => ((steelyardref02_Len.f k l2).bind fun t451 => (if (IntKind.u64.wrap (t450)) = 0 then (steelyardref03_Against.j0 k l0 a1 l2 a3 (IntKind.u64.wrap (t450)) (IntKind.u64.wrap (t451)) true) else (steelyardref03_Against.j0 k l0 a1 l2 a3 (IntKind.u64.wrap (t450)) (IntKind.u64.wrap (t451)) ((IntKind.u64.wrap (t451)) == 0))))) = some r := h
 clear h
 obtain ⟨t450, A5, H⟩ := ob_ H
 try dsimp only at H
 obtain ⟨t451, A6, H⟩ := ob_ H
 try dsimp only at H
 have HC7 := Aside0.mk H
 clear H
 go_enter Try.func74, Try.ntmps74
 go_upto_region 3 with (first | ((with_reducible refine gate_callee (f := 55) rfl ?_); refine goesM (some 13) Try.func55 #[.slice A0 l0.length c0] ?_; (with_reducible refine (steelyardref02_Len.calls k _ _ l0 t450 _ ?side1 ?side2 A5.out).mono ?_); (case side1 => repeat (first | exact HR0.out | (with_reducible first | apply cA | apply cN | apply cD))); (case side2 => exact HC0.out); rintro e w' ⟨rfl, ⟨nd, rfl⟩⟩; refine ⟨_, rfl, ?_⟩) | ((with_reducible refine gate_callee (f := 55) rfl ?_); refine goesM (some 16) Try.func55 #[.slice A2 l2.length c2] ?_; (with_reducible refine (steelyardref02_Len.calls k _ _ l2 t451 _ ?side1 ?side2 A6.out).mono ?_); (case side1 => repeat (first | exact HR2.out | (with_reducible first | apply cA | apply cN | apply cD))); (case side2 => exact HC2.out); rintro e w' ⟨rfl, ⟨nd, rfl⟩⟩; refine ⟨_, rfl, ?_⟩))
 (try simp only [Act.put, List.setIfInBounds_toArray, List.set_cons_zero, List.set_cons_succ])
 go_cut [23] (fun v23 wc => ∃ (kq : Nat) (x23_6 : Bool), v23 = .bool x23_6 ∧ Aside0 (steelyardref03_Against.j0 kq l0 a1 l2 a3 (IntKind.u64.wrap (t450)) (IntKind.u64.wrap (t451)) x23_6 = some r) ∧ Aside0 (kq ≤ k) ∧ Aside0 (Below w.heap.size w wc))
 case first =>
  have H := HC7.out
  clear HC7
  by_cases c8 : (IntKind.u64.wrap (t450)) = 0
  ·rw [if_pos c8] at H
   have c8b0 : ((IntKind.u64.wrap (t450)) == 0) = true := beq_iff_eq.mpr c8
   have c8b1 : ((IntKind.u64.wrap (t450)) != 0) = false := bne_eq_false_iff_eq.mpr c8
   clear c8
   (first | rw [c8b0] | (simp only [i64_w, i32_w]; rw [c8b0]) | skip)
   have H' := Aside0.mk H
   clear H
   go_wp2
   go_meet
   case rel => exact ⟨_, (true), (by first | rfl | (simp; done) | (simp [*]; done)), H', ⟨by first | omega | exact Nat.le_refl _⟩, ⟨bl_ HB⟩⟩
  ·rw [if_neg c8] at H
   have c8b0 : ((IntKind.u64.wrap (t450)) == 0) = false := beq_eq_false_iff_ne.mpr c8
   have c8b1 : ((IntKind.u64.wrap (t450)) != 0) = true := bne_iff_ne.mpr c8
   (first | rw [c8b0] | (simp only [i64_w, i32_w]; rw [c8b0]) | skip)
   have H' := Aside0.mk H
   clear H
   go_wp2
   go_meet
   case rel => exact ⟨_, (((IntKind.u64.wrap (t451)) == 0)), (by first | rfl | (simp; done) | (simp [*]; done)), H', ⟨by first | omega | exact Nat.le_refl _⟩, ⟨bl_ HB⟩⟩
 case rest =>
  clear HC7
  try clear c2
  try clear p2
  try clear c5
  try clear c7
  try clear c8
  try clear c8b0
  try clear c8b1
  obtain ⟨kq, x23_6, rfl, HA, HJ6, HB⟩ := hcut
  cases kq with
  | zero => exact absurd HA.out (by simp [steelyardref03_Against.j0])
  | succ kj6 =>
   have H := HA.out
   clear HA
   simp only [steelyardref03_Against.j0] at H
   by_cases c9 : x23_6 = true
   ·subst c9
    have H1 : ((steelyardref02_Cmp.f kj6 l0 l2).bind fun t452 => (some t452)) = some r := by rw [if_pos rfl] at H; exact H
    clear H
    have H := H1
    clear H1
    obtain ⟨t452, A10, H⟩ := ob_ H
    try dsimp only at H
    obtain rfl := Option.some.inj H
    go_wp2_with (first | ((with_reducible refine gate_callee (f := 61) rfl ?_); refine goesM (some 26) Try.func61 #[.slice A0 l0.length c0, .slice A2 l2.length c2] ?_; (with_reducible refine (steelyardref02_Cmp.calls kj6 _ _ l0 _ _ l2 t452 _ ?side1 ?side2 ?side3 ?side4 A10.out).mono ?_); (case side1 => repeat (first | exact (Kd.C_below HR0.out HB.out) | (with_reducible first | apply cA | apply cN | apply cD))); (case side2 => exact HC0.out); (case side3 => repeat (first | exact (Kd.C_below HR2.out HB.out) | (with_reducible first | apply cA | apply cN | apply cD))); (case side4 => exact HC2.out); rintro e w' ⟨rfl, ⟨nd, rfl⟩⟩; refine ⟨_, rfl, ?_⟩))
    go_ret
    exact ⟨by first | rfl | (simp [errW_none, errW_some] <;> rfl) | (simp [*, errW_none, errW_some] <;> rfl), bl_ HB⟩
   ·replace c9 := Bool.eq_false_iff.mpr c9
    subst c9
    have H1 : (if a1 < a3 then ((steelyardref03_Against.f kj6 l2 a3 l0 a1).bind fun t453 => (some (wrap64 (-t453)))) else (if (IntKind.u64.wrap ((IntKind.u64.wrap (a1)) - (IntKind.u64.wrap (a3)))) > 1099511627776 then (steelyardref03_Against.j1 kj6 l0 l2 (IntKind.u64.wrap (t450)) (IntKind.u64.wrap (t451)) (IntKind.u64.wrap ((IntKind.u64.wrap (a1)) - (IntKind.u64.wrap (a3)))) true) else (steelyardref03_Against.j1 kj6 l0 l2 (IntKind.u64.wrap (t450)) (IntKind.u64.wrap (t451)) (IntKind.u64.wrap ((IntKind.u64.wrap (a1)) - (IntKind.u64.wrap (a3)))) (decide ((IntKind.u64.wrap ((IntKind.u64.wrap (t450)) + (IntKind.u64.wrap ((IntKind.u64.wrap (a1)) - (IntKind.u64.wrap (a3)))))) > (IntKind.u64.wrap (t451))))))) = some r := by rw [if_neg (show ¬ (false = true) by decide)] at H; exact H
    clear H
    have H := H1
    clear H1
    by_cases c11 : a1 < a3
    ·rw [if_pos c11] at H
     have c11b0 : decide (a1 < a3) = true := decide_eq_true c11
     clear c11
     obtain ⟨t453, A12, H⟩ := ob_ H
     try dsimp only at H
     obtain rfl := Option.some.inj H
     go_wp2_with (first | ((with_reducible refine gate_callee (f := 74) rfl ?_); refine goesM (some 34) Try.func74 #[.slice A2 l2.length c2, .int .i64 a3, .slice A0 l0.length c0, .int .i64 a1] ?_; (with_reducible refine (ih kj6 (by have := HJ6.out; omega) _ _ l2 a3 _ _ l0 a1 t453 _ ?side1 ?side2 ?side3 ?side4 A12.out).mono ?_); (case side1 => repeat (first | exact (Kd.C_below HR2.out HB.out) | (with_reducible first | apply cA | apply cN | apply cD))); (case side2 => exact HC2.out); (case side3 => repeat (first | exact (Kd.C_below HR0.out HB.out) | (with_reducible first | apply cA | apply cN | apply cD))); (case side4 => exact HC0.out); rintro e w13 ⟨rfl, hb⟩; refine ⟨_, rfl, ?_⟩; have n0_ := bs_ HB hb; clear HB; have HB := n0_; clear n0_; (try clear hb); (try clear hb2); (try clear hk); (try clear hi)))
     go_ret
     exact ⟨by first | rfl | (simp [errW_none, errW_some] <;> rfl) | (simp [*, errW_none, errW_some] <;> rfl), bl_ HB⟩
    ·rw [if_neg c11] at H
     have c11b0 : decide (a1 < a3) = false := decide_eq_false c11
     clear c11
     have HC14 := Aside0.mk H
     clear H
     go_upto_region 8 with (fail)
     obtain ⟨bz15, hbz15⟩ : ∃ b_ : Bool, decide (a1 < a3) = b_ := ⟨_, rfl⟩
     (try rw [hbz15])
     go_cut [49] (fun v49 wc => ∃ (kq : Nat) (x49_13 : Bool), v49 = .bool x49_13 ∧ Aside0 (steelyardref03_Against.j1 kq l0 l2 (IntKind.u64.wrap (t450)) (IntKind.u64.wrap (t451)) (IntKind.u64.wrap ((IntKind.u64.wrap (a1)) - (IntKind.u64.wrap (a3)))) x49_13 = some r) ∧ Aside0 (kq ≤ kj6) ∧ Aside0 (Below w.heap.size w wc))
     case first =>
      have H := HC14.out
      clear HC14
      by_cases c16 : (IntKind.u64.wrap ((IntKind.u64.wrap (a1)) - (IntKind.u64.wrap (a3)))) > 1099511627776
      ·rw [if_pos c16] at H
       have c16b0 : decide (1099511627776 < (IntKind.u64.wrap ((IntKind.u64.wrap (a1)) - (IntKind.u64.wrap (a3))))) = true := decide_eq_true c16
       clear c16
       (first | rw [c16b0] | (simp only [i64_w, i32_w]; rw [c16b0]) | skip)
       have H' := Aside0.mk H
       clear H
       go_wp2
       go_meet
       case rel => exact ⟨_, (true), (by first | rfl | (simp; done) | (simp [*]; done)), H', ⟨by have := HJ6.out; first | omega | exact Nat.le_refl _⟩, ⟨bl_ HB⟩⟩
      ·rw [if_neg c16] at H
       have c16b0 : decide (1099511627776 < (IntKind.u64.wrap ((IntKind.u64.wrap (a1)) - (IntKind.u64.wrap (a3))))) = false := decide_eq_false c16
       clear c16
       (first | rw [c16b0] | (simp only [i64_w, i32_w]; rw [c16b0]) | skip)
       have H' := Aside0.mk H
       clear H
       go_wp2
       go_meet
       case rel => exact ⟨_, (decide ((IntKind.u64.wrap ((IntKind.u64.wrap (t450)) + (IntKind.u64.wrap ((IntKind.u64.wrap (a1)) - (IntKind.u64.wrap (a3)))))) > (IntKind.u64.wrap (t451)))), (by first | rfl | (simp; done) | (simp [*]; done)), H', ⟨by have := HJ6.out; first | omega | exact Nat.le_refl _⟩, ⟨bl_ HB⟩⟩
     case rest =>
      clear HC14
      try clear c1
      try clear c2
      try clear p2
      try clear c5
      try clear c6
      try clear p6
      try clear c7
      try clear c8
      try clear c8b0
      try clear c8b1
      try clear c9
      try clear c11
      try clear c11b0
      try clear c16
      try clear c16b0
      try clear p2
      obtain ⟨kq, x49_13, rfl, HA, HJ13, HB⟩ := hcut
      cases kq with
      | zero => exact absurd HA.out (by simp [steelyardref03_Against.j1])
      | succ kj13 =>
       have H := HA.out
       clear HA
       simp only [steelyardref03_Against.j1] at H
       by_cases c17 : x49_13 = true
       ·subst c17
        have H1 : (some 1) = some r := by rw [if_pos rfl] at H; exact H
        clear H
        have H := H1
        clear H1
        obtain rfl := Option.some.inj H
        go_wp2
        go_ret
        exact ⟨by first | rfl | (simp [errW_none, errW_some] <;> rfl) | (simp [*, errW_none, errW_some] <;> rfl), bl_ HB⟩
       ·replace c17 := Bool.eq_false_iff.mpr c17
        subst c17
        have H1 : (if (IntKind.u64.wrap ((IntKind.u64.wrap (t450)) + (IntKind.u64.wrap ((IntKind.u64.wrap (a1)) - (IntKind.u64.wrap (a3)))))) < (IntKind.u64.wrap (t451)) then (some (-1)) else ((steelyardref02_Moved.f kj13 l0 (wrap64 ((IntKind.u64.wrap ((IntKind.u64.wrap (a1)) - (IntKind.u64.wrap (a3))))))).bind fun t454 => ((steelyardref02_Cmp.f kj13 t454 l2).bind fun t457 => (some t457)))) = some r := by rw [if_neg (show ¬ (false = true) by decide)] at H; exact H
        clear H
        have H := H1
        clear H1
        by_cases c18 : (IntKind.u64.wrap ((IntKind.u64.wrap (t450)) + (IntKind.u64.wrap ((IntKind.u64.wrap (a1)) - (IntKind.u64.wrap (a3)))))) < (IntKind.u64.wrap (t451))
        ·rw [if_pos c18] at H
         have c18b0 : decide ((IntKind.u64.wrap ((IntKind.u64.wrap (t450)) + (IntKind.u64.wrap ((IntKind.u64.wrap (a1)) - (IntKind.u64.wrap (a3)))))) < (IntKind.u64.wrap (t451))) = true := decide_eq_true c18
         clear c18
         obtain rfl := Option.some.inj H
         go_wp2
         go_ret
         exact ⟨by first | rfl | (simp [errW_none, errW_some] <;> rfl) | (simp [*, errW_none, errW_some] <;> rfl), bl_ HB⟩
        ·rw [if_neg c18] at H
         have c18b0 : decide ((IntKind.u64.wrap ((IntKind.u64.wrap (t450)) + (IntKind.u64.wrap ((IntKind.u64.wrap (a1)) - (IntKind.u64.wrap (a3)))))) < (IntKind.u64.wrap (t451))) = false := decide_eq_false c18
         clear c18
         obtain ⟨t454, A19, H⟩ := ob_ H
         try dsimp only at H
         obtain ⟨t457, A20, H⟩ := ob_ H
         try dsimp only at H
         obtain rfl := Option.some.inj H
         go_wp2_with (first | ((with_reducible refine gate_callee (f := 58) rfl ?_); refine goesM (some 58) Try.func58 #[.slice A0 l0.length c0, .int .i64 (wrap64 ((IntKind.u64.wrap ((IntKind.u64.wrap (a1)) - (IntKind.u64.wrap (a3))))))] ?_; (with_reducible refine (steelyardref02_Moved.calls kj13 _ _ l0 (wrap64 ((IntKind.u64.wrap ((IntKind.u64.wrap (a1)) - (IntKind.u64.wrap (a3)))))) t454 _ ?side1 ?side2 A19.out).mono ?_); (case side1 => repeat (first | exact (Kd.C_below HR0.out HB.out) | (with_reducible first | apply cA | apply cN | apply cD))); (case side2 => exact HC0.out); rintro e w21 ⟨v455, rfl, ho0, hb⟩; refine ⟨_, rfl, ?_⟩; have n0_ := Aside0.mk (Kd.R_lower ho0 (below_size (bl_ HB))); have n1_ := bs_ HB hb; clear HB; have HO456 := n0_; have HB := n1_; clear n0_ n1_; (try clear hb); (try clear hb2); (try clear hk); (try clear hi); (try clear ho0); obtain ⟨Ao22, co22, eo22⟩ := Kd.R_slice HO456.out; subst eo22) | ((with_reducible refine gate_callee (f := 61) rfl ?_); refine goesM (some 60) Try.func61 #[.slice Ao22 t454.length co22, .slice A2 l2.length c2] ?_; (with_reducible refine (steelyardref02_Cmp.calls kj13 _ _ t454 _ _ l2 t457 _ ?side1 ?side2 ?side3 ?side4 A20.out).mono ?_); (case side1 => repeat (first | exact (Kd.R_reads' HO456.out).2.2 | (with_reducible first | apply cA | apply cN | apply cD))); (case side2 => exact (Kd.R_reads' HO456.out).2.1); (case side3 => repeat (first | exact (Kd.C_below HR2.out HB.out) | (with_reducible first | apply cA | apply cN | apply cD))); (case side4 => exact HC2.out); rintro e w' ⟨rfl, ⟨nd, rfl⟩⟩; refine ⟨_, rfl, ?_⟩))
         go_ret
         exact ⟨by first | rfl | (simp [errW_none, errW_some] <;> rfl) | (simp [*, errW_none, errW_some] <;> rfl), bl_ HB⟩

end Go.Proofs.Ytdemanikmaafeaa.Pr
