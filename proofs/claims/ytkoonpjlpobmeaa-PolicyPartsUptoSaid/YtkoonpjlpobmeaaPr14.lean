-- short
-- written by this session's own program (wip/fprint.py), which widens the kit's print by floats
import Derived.Test.YtkoonpjlpobmeaaWShort
import Derived.Test.YtkoonpjlpobmeaaPr0
import Derived.Test.YtkoonpjlpobmeaaPr11
import Derived.Test.YtkoonpjlpobmeaaPr12
import Derived.Test.YtkoonpjlpobmeaaPr13
namespace Go.Proofs.Ytkoonpjlpobmeaa.Pr
open Go.RowKit Go.Proofs.YtkoonpjlpobmeaaW.PrintWords Go.Proofs.YtkoonpjlpobmeaaW.PrintLast Go.Proofs.YtkoonpjlpobmeaaW.PrintMore
attribute [local go_sem] max2_int min2_int max_two min_two max_three min_three max_four min_four   -- for this text's walks alone
set_option linter.unusedVariables false
set_option linter.unusedSimpArgs false

/-! ### steelyardref06_Verdict: function 19 -/
mutual
def steelyardref06_Verdict.j0 : Nat → Bool → Int → Int → Int → Int → Int → Int → Int → Int → Option (Nat × Bool)
 | 0, _, _, _, _, _, _, _, _, _ => none
 | k + 1, x12, x214000, x214001, x214002, x214003, x214004, x214005, x215000, x215001 => if x12 = true then (some (0, false)) else (if x214000 > 0 then (steelyardref06_Verdict.j1 k (x215000 == 0) x214000 x214001 x214002 x214003 x214004 x214005 x215000 x215001) else (steelyardref06_Verdict.j1 k false x214000 x214001 x214002 x214003 x214004 x214005 x215000 x215001))
def steelyardref06_Verdict.j1 : Nat → Bool → Int → Int → Int → Int → Int → Int → Int → Int → Option (Nat × Bool)
 | 0, _, _, _, _, _, _, _, _, _ => none
 | k + 1, x19, x214000, x214001, x214002, x214003, x214004, x214005, x215000, x215001 => if x19 = true then ((steelyardref06_TheNaN.f).bind fun t217 => (some (t217, true))) else (if x215001 = 0 then (if x214001 > 0 then (steelyardref06_Verdict.j2 k (decide (x214002 > 0)) x214000 x214001 x214002 x214003 x214004 x214005) else (steelyardref06_Verdict.j2 k false x214000 x214001 x214002 x214003 x214004 x214005)) else (some (0, false)))
def steelyardref06_Verdict.j2 : Nat → Bool → Int → Int → Int → Int → Int → Int → Option (Nat × Bool)
 | 0, _, _, _, _, _, _, _ => none
 | k + 1, x33, x214000, x214001, x214002, x214003, x214004, x214005 => if x33 = true then ((steelyardref06_TheNaN.f).bind fun t218 => (some (t218, true))) else (if x214001 > 0 then ((steelyardref06_Inf.f false).bind fun t219 => (some (t219, true))) else (if x214002 > 0 then ((steelyardref06_Inf.f true).bind fun t220 => (some (t220, true))) else (some (0, false))))
end
def steelyardref06_Verdict.f (k : Nat) (a0_0 : Int) (a0_1 : Int) (a0_2 : Int) (a0_3 : Int) (a0_4 : Int) (a0_5 : Int) (a1_0 : Int) (a1_1 : Int) : Option (Nat × Bool) := (steelyardref06_MayBe.f a0_0 a0_1 a0_2 a0_3 a0_4 a0_5).bind fun t215 => ((steelyardref06_May.f a1_0 a1_1).bind fun t216 => (if t215 = true then (steelyardref06_Verdict.j0 k (!t216) a0_0 a0_1 a0_2 a0_3 a0_4 a0_5 a1_0 a1_1) else (steelyardref06_Verdict.j0 k true a0_0 a0_1 a0_2 a0_3 a0_4 a0_5 a1_0 a1_1)))
theorem steelyardref06_Verdict.mono_l : ∀ k, (∀ y0 y1 y2 y3 y4 y5 y6 y7 y8, LeO (steelyardref06_Verdict.j0 k y0 y1 y2 y3 y4 y5 y6 y7 y8) (steelyardref06_Verdict.j0 (k + 1) y0 y1 y2 y3 y4 y5 y6 y7 y8)) ∧ (∀ y0 y1 y2 y3 y4 y5 y6 y7 y8, LeO (steelyardref06_Verdict.j1 k y0 y1 y2 y3 y4 y5 y6 y7 y8) (steelyardref06_Verdict.j1 (k + 1) y0 y1 y2 y3 y4 y5 y6 y7 y8)) ∧ (∀ y0 y1 y2 y3 y4 y5 y6, LeO (steelyardref06_Verdict.j2 k y0 y1 y2 y3 y4 y5 y6) (steelyardref06_Verdict.j2 (k + 1) y0 y1 y2 y3 y4 y5 y6))
 | 0 => ⟨fun _ _ _ _ _ _ _ _ _ r h => by simp [steelyardref06_Verdict.j0] at h, fun _ _ _ _ _ _ _ _ _ r h => by simp [steelyardref06_Verdict.j1] at h, fun _ _ _ _ _ _ _ r h => by simp [steelyardref06_Verdict.j2] at h⟩
 | k + 1 => by
  obtain ⟨ih0, ih1, ih2⟩ := steelyardref06_Verdict.mono_l k
  refine ⟨?_, ?_, ?_⟩
  ·intro y0 y1 y2 y3 y4 y5 y6 y7 y8
   unfold steelyardref06_Verdict.j0
   repeat' first
   | (with_reducible exact ih0 _ _ _ _ _ _ _ _ _)
   | (with_reducible exact ih1 _ _ _ _ _ _ _ _ _)
   | (with_reducible exact ih2 _ _ _ _ _ _ _)
   | (with_reducible exact LeO.refl _)
   | (with_reducible exact LeO.none _)
   | (with_reducible refine LeO.ite ?_ ?_)
   | (with_reducible refine LeO.bind ?_ (fun _ => ?_))
   | exact ih0 _ _ _ _ _ _ _ _ _
   | exact ih1 _ _ _ _ _ _ _ _ _
   | exact ih2 _ _ _ _ _ _ _
   | exact LeO.none _
   | refine LeO.ite ?_ ?_
   | refine LeO.bind ?_ (fun _ => ?_)
  ·intro y0 y1 y2 y3 y4 y5 y6 y7 y8
   unfold steelyardref06_Verdict.j1
   repeat' first
   | (with_reducible exact ih0 _ _ _ _ _ _ _ _ _)
   | (with_reducible exact ih1 _ _ _ _ _ _ _ _ _)
   | (with_reducible exact ih2 _ _ _ _ _ _ _)
   | (with_reducible exact LeO.refl _)
   | (with_reducible exact LeO.none _)
   | (with_reducible refine LeO.ite ?_ ?_)
   | (with_reducible refine LeO.bind ?_ (fun _ => ?_))
   | exact ih0 _ _ _ _ _ _ _ _ _
   | exact ih1 _ _ _ _ _ _ _ _ _
   | exact ih2 _ _ _ _ _ _ _
   | exact LeO.none _
   | refine LeO.ite ?_ ?_
   | refine LeO.bind ?_ (fun _ => ?_)
  ·intro y0 y1 y2 y3 y4 y5 y6
   unfold steelyardref06_Verdict.j2
   repeat' first
   | (with_reducible exact ih0 _ _ _ _ _ _ _ _ _)
   | (with_reducible exact ih1 _ _ _ _ _ _ _ _ _)
   | (with_reducible exact ih2 _ _ _ _ _ _ _)
   | (with_reducible exact LeO.refl _)
   | (with_reducible exact LeO.none _)
   | (with_reducible refine LeO.ite ?_ ?_)
   | (with_reducible refine LeO.bind ?_ (fun _ => ?_))
   | exact ih0 _ _ _ _ _ _ _ _ _
   | exact ih1 _ _ _ _ _ _ _ _ _
   | exact ih2 _ _ _ _ _ _ _
   | exact LeO.none _
   | refine LeO.ite ?_ ?_
   | refine LeO.bind ?_ (fun _ => ?_)
theorem steelyardref06_Verdict.mono : ∀ a0 a1 a2 a3 a4 a5 a6 a7 k, LeO (steelyardref06_Verdict.f k a0 a1 a2 a3 a4 a5 a6 a7) (steelyardref06_Verdict.f (k + 1) a0 a1 a2 a3 a4 a5 a6 a7) := by
 intro a0 a1 a2 a3 a4 a5 a6 a7 k
 obtain ⟨ih0, ih1, ih2⟩ := steelyardref06_Verdict.mono_l k
 unfold steelyardref06_Verdict.f
 repeat' first
   | (with_reducible exact ih0 _ _ _ _ _ _ _ _ _)
   | (with_reducible exact ih1 _ _ _ _ _ _ _ _ _)
   | (with_reducible exact ih2 _ _ _ _ _ _ _)
   | (with_reducible exact LeO.refl _)
   | (with_reducible exact LeO.none _)
   | (with_reducible refine LeO.ite ?_ ?_)
   | (with_reducible refine LeO.bind ?_ (fun _ => ?_))
   | exact ih0 _ _ _ _ _ _ _ _ _
   | exact ih1 _ _ _ _ _ _ _ _ _
   | exact ih2 _ _ _ _ _ _ _
   | exact LeO.none _
   | refine LeO.ite ?_ ?_
   | refine LeO.bind ?_ (fun _ => ?_)
set_option maxHeartbeats 3000000 in
set_option maxRecDepth 100000 in
theorem steelyardref06_Verdict.calls (k : Nat) (a0_0 : Int) (a0_1 : Int) (a0_2 : Int) (a0_3 : Int) (a0_4 : Int) (a0_5 : Int) (a1_0 : Int) (a1_1 : Int) (r1 : Nat) (r2 : Bool) (w : World) (h : steelyardref06_Verdict.f k a0_0 a0_1 a0_2 a0_3 a0_4 a0_5 a1_0 a1_1 = some (r1, r2)) :
  Calls Try.prog 19 #[.agg #[.int .i64 a0_0, .int .i64 a0_1, .int .i64 a0_2, .int .i64 a0_3, .int .i64 a0_4, .int .i64 a0_5], .agg #[.int .i64 a1_0, .int .i64 a1_1]] w fun e w' => e = .returned (.tuple #[.float .f64 r1, .bool r2]) ∧ Below w.heap.size w w' := by
 have hu30 := Try.underlying30
 have hu23 := Try.underlying23
 have HB := Aside0.mk (Below.refl w.heap.size w)
 have H : ((steelyardref06_MayBe.f a0_0 a0_1 a0_2 a0_3 a0_4 a0_5).bind fun t215 => ((steelyardref06_May.f a1_0 a1_1).bind fun t216 => (if t215 = true then (steelyardref06_Verdict.j0 k (!t216) a0_0 a0_1 a0_2 a0_3 a0_4 a0_5 a1_0 a1_1) else (steelyardref06_Verdict.j0 k true a0_0 a0_1 a0_2 a0_3 a0_4 a0_5 a1_0 a1_1)))) = some (r1, r2) := h
 clear h
 obtain ⟨t215, A3, H⟩ := ob_ H
 try dsimp only at H
 obtain ⟨t216, A4, H⟩ := ob_ H
 try dsimp only at H
 have HC5 := Aside0.mk H
 clear H
 go_enter Try.func19, Try.ntmps19
 go_upto_region 3 with (first | ((with_reducible refine gate_dst (N := 2) rfl ?_); refine box_event ?hg (N := 2) ?hd (cs := #[.int .i64 a0_0, .int .i64 a0_1, .int .i64 a0_2, .int .i64 a0_3, .int .i64 a0_4, .int .i64 a0_5]) (t := 30) ?hr ?_; (case hd => rfl); (case hg => rfl); (case hr => first | (go_simp; done) | (go_simp; rfl)); intro gb213 hg w6 hbox hb; have n0_ := bs_ HB hb; have n1_ := Aside0.mk (hbox); have n2_ := ge_ HB hg; have n3_ := ge_ HB hg; clear HB; have HB := n0_; have BK213 := n1_; have GW213 := n2_; have GE213 := n3_; clear n0_ n1_ n2_ n3_; clear hb hbox hg) | ((with_reducible refine gate_dst (N := 3) rfl ?_); refine box_event ?hg (N := 3) ?hd (cs := #[.int .i64 a1_0, .int .i64 a1_1]) (t := 23) ?hr ?_; (case hd => rfl); (case hg => rfl); (case hr => first | (go_simp; done) | (go_simp; rfl)); intro gb214 hg w7 hbox hb; have n0_ := kb_ BK213 hb; have n1_ := bs_ HB hb; have n2_ := Aside0.mk (hbox); have n3_ := ge_ HB hg; have n4_ := ge_ HB hg; have n5_ := nlt_ BK213 hg; have n6_ := ngt_ BK213 hg; clear BK213; clear HB; have BK213 := n0_; have HB := n1_; have BK214 := n2_; have GW214 := n3_; have GE214 := n4_; have NB213_214 := n5_; have NB214_213 := n6_; clear n0_ n1_ n2_ n3_ n4_ n5_ n6_; clear hb hbox hg; have hnb8 := NB213_214.out; have hnc8 := NB214_213.out; have hcz9_0 : w7.cell? ⟨gb213, 0, none⟩ = some (.int .i64 a0_0) := (blk_cell BK213.out 0).trans rfl; have hcz9_1 : w7.cell? ⟨gb213, 1, none⟩ = some (.int .i64 a0_1) := (blk_cell BK213.out 1).trans rfl; have hcz9_2 : w7.cell? ⟨gb213, 2, none⟩ = some (.int .i64 a0_2) := (blk_cell BK213.out 2).trans rfl; have hcz9_3 : w7.cell? ⟨gb213, 3, none⟩ = some (.int .i64 a0_3) := (blk_cell BK213.out 3).trans rfl; have hcz9_4 : w7.cell? ⟨gb213, 4, none⟩ = some (.int .i64 a0_4) := (blk_cell BK213.out 4).trans rfl; have hcz9_5 : w7.cell? ⟨gb213, 5, none⟩ = some (.int .i64 a0_5) := (blk_cell BK213.out 5).trans rfl; have hfz9_0 := blk_frozen BK213.out 0; have hfz9_1 := blk_frozen BK213.out 1; have hfz9_2 := blk_frozen BK213.out 2; have hfz9_3 := blk_frozen BK213.out 3; have hfz9_4 := blk_frozen BK213.out 4; have hfz9_5 := blk_frozen BK213.out 5) | ((with_reducible refine gate_callee (f := 36) rfl ?_); refine goesM (some 9) Try.func36 #[.agg #[.int .i64 a0_0, .int .i64 a0_1, .int .i64 a0_2, .int .i64 a0_3, .int .i64 a0_4, .int .i64 a0_5]] ?_; (with_reducible refine (steelyardref06_MayBe.calls a0_0 a0_1 a0_2 a0_3 a0_4 a0_5 t215 _ A3.out).mono ?_); rintro e w10 ⟨rfl, hb⟩; refine ⟨_, rfl, ?_⟩; have n0_ := kb_ BK213 hb; have n1_ := kb_ BK214 hb; have n2_ := bs_ HB hb; clear BK213; clear BK214; clear HB; have BK213 := n0_; have BK214 := n1_; have HB := n2_; clear n0_ n1_ n2_; (try clear hb); (try clear hb2); (try clear hk); (try clear hi); have hcz11_0 : w10.cell? ⟨gb214, 0, none⟩ = some (.int .i64 a1_0) := (blk_cell BK214.out 0).trans rfl; have hcz11_1 : w10.cell? ⟨gb214, 1, none⟩ = some (.int .i64 a1_1) := (blk_cell BK214.out 1).trans rfl; have hfz11_0 := blk_frozen BK214.out 0; have hfz11_1 := blk_frozen BK214.out 1) | ((with_reducible refine gate_callee (f := 10) rfl ?_); refine goesM (some 11) Try.func10 #[.agg #[.int .i64 a1_0, .int .i64 a1_1]] ?_; (with_reducible refine (steelyardref06_May.calls a1_0 a1_1 t216 _ A4.out).mono ?_); rintro e w12 ⟨rfl, hb⟩; refine ⟨_, rfl, ?_⟩; have n0_ := kb_ BK213 hb; have n1_ := kb_ BK214 hb; have n2_ := bs_ HB hb; clear BK213; clear BK214; clear HB; have BK213 := n0_; have BK214 := n1_; have HB := n2_; clear n0_ n1_ n2_; (try clear hb); (try clear hb2); (try clear hk); (try clear hi)))
 (try simp only [Act.put, List.setIfInBounds_toArray, List.set_cons_zero, List.set_cons_succ])
 go_cut [12] (fun v12 wc => ∃ (kq : Nat) (x12_4 : Bool), v12 = .bool x12_4 ∧ Aside0 (steelyardref06_Verdict.j0 kq x12_4 a0_0 a0_1 a0_2 a0_3 a0_4 a0_5 a1_0 a1_1 = some (r1, r2)) ∧ Aside0 (kq ≤ k) ∧ Aside0 (wc.heap[gb213]? = some (.cells #[.int .i64 a0_0, .int .i64 a0_1, .int .i64 a0_2, .int .i64 a0_3, .int .i64 a0_4, .int .i64 a0_5] 30 (0, 0))) ∧ Aside0 (wc.heap[gb214]? = some (.cells #[.int .i64 a1_0, .int .i64 a1_1] 23 (0, 0))) ∧ Aside0 (Below w.heap.size w wc))
 case first =>
  have H := HC5.out
  clear HC5
  by_cases c13 : t215 = true
  ·subst c13
   have H1 : (steelyardref06_Verdict.j0 k (!t216) a0_0 a0_1 a0_2 a0_3 a0_4 a0_5 a1_0 a1_1) = some (r1, r2) := by rw [if_pos rfl] at H; exact H
   clear H
   have H := H1
   clear H1
   have H' := Aside0.mk H
   clear H
   go_wp2
   go_meet
   case rel => exact ⟨_, (!t216), (by first | rfl | (simp; done) | (simp [*]; done)), H', ⟨by first | omega | exact Nat.le_refl _⟩, ⟨by (with_reducible repeat (first | apply bN | apply bD | apply bA)); exact BK213.out⟩, ⟨by (with_reducible repeat (first | apply bN | apply bD | apply bA)); exact BK214.out⟩, ⟨bl_ HB⟩⟩
  ·replace c13 := Bool.eq_false_iff.mpr c13
   subst c13
   have H1 : (steelyardref06_Verdict.j0 k true a0_0 a0_1 a0_2 a0_3 a0_4 a0_5 a1_0 a1_1) = some (r1, r2) := by rw [if_neg (show ¬ (false = true) by decide)] at H; exact H
   clear H
   have H := H1
   clear H1
   have H' := Aside0.mk H
   clear H
   go_wp2
   go_meet
   case rel => exact ⟨_, (true), (by first | rfl | (simp; done) | (simp [*]; done)), H', ⟨by first | omega | exact Nat.le_refl _⟩, ⟨by (with_reducible repeat (first | apply bN | apply bD | apply bA)); exact BK213.out⟩, ⟨by (with_reducible repeat (first | apply bN | apply bD | apply bA)); exact BK214.out⟩, ⟨bl_ HB⟩⟩
 case rest =>
  clear HC5
  try clear c1
  try clear p2
  try clear c3
  try clear c8
  try clear c10
  try clear c13
  try clear hcz11_0
  try clear hcz11_1
  try clear hcz9_0
  try clear hcz9_1
  try clear hcz9_2
  try clear hcz9_3
  try clear hcz9_4
  try clear hcz9_5
  try clear hfz11_0
  try clear hfz11_1
  try clear hfz9_0
  try clear hfz9_1
  try clear hfz9_2
  try clear hfz9_3
  try clear hfz9_4
  try clear hfz9_5
  obtain ⟨kq, x12_4, rfl, HA, HJ4, BK213, BK214, HB⟩ := hcut
  cases kq with
  | zero => exact absurd HA.out (by simp [steelyardref06_Verdict.j0])
  | succ kj4 =>
   have H := HA.out
   clear HA
   simp only [steelyardref06_Verdict.j0] at H
   by_cases c14 : x12_4 = true
   ·subst c14
    have H1 : (some (0, false)) = some (r1, r2) := by rw [if_pos rfl] at H; exact H
    clear H
    have H := H1
    clear H1
    simp only [Option.some.injEq, Prod.mk.injEq] at H
    obtain ⟨rfl, rfl⟩ := H
    go_wp2
    go_ret2
    exact ⟨by first | rfl | (simp [errW_none, errW_some] <;> rfl) | (simp [*, errW_none, errW_some] <;> rfl), bl_ HB⟩
   ·replace c14 := Bool.eq_false_iff.mpr c14
    subst c14
    have H1 : (if a0_0 > 0 then (steelyardref06_Verdict.j1 kj4 (a1_0 == 0) a0_0 a0_1 a0_2 a0_3 a0_4 a0_5 a1_0 a1_1) else (steelyardref06_Verdict.j1 kj4 false a0_0 a0_1 a0_2 a0_3 a0_4 a0_5 a1_0 a1_1)) = some (r1, r2) := by rw [if_neg (show ¬ (false = true) by decide)] at H; exact H
    clear H
    have H := H1
    clear H1
    have HC15 := Aside0.mk H
    clear H
    go_upto_region 5 with (fail)
    go_cut [19] (fun v19 wc => ∃ (kq : Nat) (x19_14 : Bool), v19 = .bool x19_14 ∧ Aside0 (steelyardref06_Verdict.j1 kq x19_14 a0_0 a0_1 a0_2 a0_3 a0_4 a0_5 a1_0 a1_1 = some (r1, r2)) ∧ Aside0 (kq ≤ kj4) ∧ Aside0 (wc.heap[gb213]? = some (.cells #[.int .i64 a0_0, .int .i64 a0_1, .int .i64 a0_2, .int .i64 a0_3, .int .i64 a0_4, .int .i64 a0_5] 30 (0, 0))) ∧ Aside0 (wc.heap[gb214]? = some (.cells #[.int .i64 a1_0, .int .i64 a1_1] 23 (0, 0))) ∧ Aside0 (Below w.heap.size w wc))
    case first =>
     have H := HC15.out
     clear HC15
     by_cases c16 : a0_0 > 0
     ·rw [if_pos c16] at H
      have c16b0 : decide (0 < a0_0) = true := decide_eq_true c16
      clear c16
      (first | rw [c16b0] | (simp only [i64_w, i32_w]; rw [c16b0]) | skip)
      have H' := Aside0.mk H
      clear H
      have hnb17 := NB213_214.out
      have hnc17 := NB214_213.out
      have hcz18_0 : wc.cell? ⟨gb213, 0, none⟩ = some (.int .i64 a0_0) := (blk_cell BK213.out 0).trans rfl
      have hcz18_1 : wc.cell? ⟨gb213, 1, none⟩ = some (.int .i64 a0_1) := (blk_cell BK213.out 1).trans rfl
      have hcz18_2 : wc.cell? ⟨gb213, 2, none⟩ = some (.int .i64 a0_2) := (blk_cell BK213.out 2).trans rfl
      have hcz18_3 : wc.cell? ⟨gb213, 3, none⟩ = some (.int .i64 a0_3) := (blk_cell BK213.out 3).trans rfl
      have hcz18_4 : wc.cell? ⟨gb213, 4, none⟩ = some (.int .i64 a0_4) := (blk_cell BK213.out 4).trans rfl
      have hcz18_5 : wc.cell? ⟨gb213, 5, none⟩ = some (.int .i64 a0_5) := (blk_cell BK213.out 5).trans rfl
      have hfz18_0 := blk_frozen BK213.out 0
      have hfz18_1 := blk_frozen BK213.out 1
      have hfz18_2 := blk_frozen BK213.out 2
      have hfz18_3 := blk_frozen BK213.out 3
      have hfz18_4 := blk_frozen BK213.out 4
      have hfz18_5 := blk_frozen BK213.out 5
      have hcz19_0 : wc.cell? ⟨gb214, 0, none⟩ = some (.int .i64 a1_0) := (blk_cell BK214.out 0).trans rfl
      have hcz19_1 : wc.cell? ⟨gb214, 1, none⟩ = some (.int .i64 a1_1) := (blk_cell BK214.out 1).trans rfl
      have hfz19_0 := blk_frozen BK214.out 0
      have hfz19_1 := blk_frozen BK214.out 1
      go_wp2
      go_meet
      case rel => exact ⟨_, ((a1_0 == 0)), (by first | rfl | (simp; done) | (simp [*]; done)), H', ⟨by have := HJ4.out; first | omega | exact Nat.le_refl _⟩, ⟨by (with_reducible repeat (first | apply bN | apply bD | apply bA)); exact BK213.out⟩, ⟨by (with_reducible repeat (first | apply bN | apply bD | apply bA)); exact BK214.out⟩, ⟨bl_ HB⟩⟩
     ·rw [if_neg c16] at H
      have c16b0 : decide (0 < a0_0) = false := decide_eq_false c16
      clear c16
      (first | rw [c16b0] | (simp only [i64_w, i32_w]; rw [c16b0]) | skip)
      have H' := Aside0.mk H
      clear H
      have hnb20 := NB213_214.out
      have hnc20 := NB214_213.out
      have hcz21_0 : wc.cell? ⟨gb213, 0, none⟩ = some (.int .i64 a0_0) := (blk_cell BK213.out 0).trans rfl
      have hcz21_1 : wc.cell? ⟨gb213, 1, none⟩ = some (.int .i64 a0_1) := (blk_cell BK213.out 1).trans rfl
      have hcz21_2 : wc.cell? ⟨gb213, 2, none⟩ = some (.int .i64 a0_2) := (blk_cell BK213.out 2).trans rfl
      have hcz21_3 : wc.cell? ⟨gb213, 3, none⟩ = some (.int .i64 a0_3) := (blk_cell BK213.out 3).trans rfl
      have hcz21_4 : wc.cell? ⟨gb213, 4, none⟩ = some (.int .i64 a0_4) := (blk_cell BK213.out 4).trans rfl
      have hcz21_5 : wc.cell? ⟨gb213, 5, none⟩ = some (.int .i64 a0_5) := (blk_cell BK213.out 5).trans rfl
      have hfz21_0 := blk_frozen BK213.out 0
      have hfz21_1 := blk_frozen BK213.out 1
      have hfz21_2 := blk_frozen BK213.out 2
      have hfz21_3 := blk_frozen BK213.out 3
      have hfz21_4 := blk_frozen BK213.out 4
      have hfz21_5 := blk_frozen BK213.out 5
      go_wp2
      go_meet
      case rel => exact ⟨_, (false), (by first | rfl | (simp; done) | (simp [*]; done)), H', ⟨by have := HJ4.out; first | omega | exact Nat.le_refl _⟩, ⟨by (with_reducible repeat (first | apply bN | apply bD | apply bA)); exact BK213.out⟩, ⟨by (with_reducible repeat (first | apply bN | apply bD | apply bA)); exact BK214.out⟩, ⟨bl_ HB⟩⟩
    case rest =>
     clear HC15
     try clear c1
     try clear c2
     try clear p2
     try clear c3
     try clear c8
     try clear c10
     try clear c13
     try clear c14
     try clear c16
     try clear c16b0
     try clear c17
     try clear c19
     try clear c20
     try clear hcz11_0
     try clear hcz11_1
     try clear hcz18_0
     try clear hcz18_1
     try clear hcz18_2
     try clear hcz18_3
     try clear hcz18_4
     try clear hcz18_5
     try clear hcz19_0
     try clear hcz19_1
     try clear hcz21_0
     try clear hcz21_1
     try clear hcz21_2
     try clear hcz21_3
     try clear hcz21_4
     try clear hcz21_5
     try clear hcz9_0
     try clear hcz9_1
     try clear hcz9_2
     try clear hcz9_3
     try clear hcz9_4
     try clear hcz9_5
     try clear hfz11_0
     try clear hfz11_1
     try clear hfz18_0
     try clear hfz18_1
     try clear hfz18_2
     try clear hfz18_3
     try clear hfz18_4
     try clear hfz18_5
     try clear hfz19_0
     try clear hfz19_1
     try clear hfz21_0
     try clear hfz21_1
     try clear hfz21_2
     try clear hfz21_3
     try clear hfz21_4
     try clear hfz21_5
     try clear hfz9_0
     try clear hfz9_1
     try clear hfz9_2
     try clear hfz9_3
     try clear hfz9_4
     try clear hfz9_5
     try clear p2
     obtain ⟨kq, x19_14, rfl, HA, HJ14, BK213, BK214, HB⟩ := hcut
     cases kq with
     | zero => exact absurd HA.out (by simp [steelyardref06_Verdict.j1])
     | succ kj14 =>
      have H := HA.out
      clear HA
      simp only [steelyardref06_Verdict.j1] at H
      by_cases c22 : x19_14 = true
      ·subst c22
       have H1 : ((steelyardref06_TheNaN.f).bind fun t217 => (some (t217, true))) = some (r1, r2) := by rw [if_pos rfl] at H; exact H
       clear H
       have H := H1
       clear H1
       obtain ⟨t217, A23, H⟩ := ob_ H
       try dsimp only at H
       simp only [Option.some.injEq, Prod.mk.injEq] at H
       obtain ⟨rfl, rfl⟩ := H
       go_wp2_with (first | ((with_reducible refine gate_callee (f := 25) rfl ?_); refine goesM (some 28) Try.func25 #[] ?_; (with_reducible refine (steelyardref06_TheNaN.calls  t217 _ A23.out).mono ?_); rintro e w' ⟨rfl, ⟨nd, rfl⟩⟩; refine ⟨_, rfl, ?_⟩))
       go_ret2
       exact ⟨by first | rfl | (simp [errW_none, errW_some] <;> rfl) | (simp [*, errW_none, errW_some] <;> rfl), bl_ HB⟩
      ·replace c22 := Bool.eq_false_iff.mpr c22
       subst c22
       have H1 : (if a1_1 = 0 then (if a0_1 > 0 then (steelyardref06_Verdict.j2 kj14 (decide (a0_2 > 0)) a0_0 a0_1 a0_2 a0_3 a0_4 a0_5) else (steelyardref06_Verdict.j2 kj14 false a0_0 a0_1 a0_2 a0_3 a0_4 a0_5)) else (some (0, false))) = some (r1, r2) := by rw [if_neg (show ¬ (false = true) by decide)] at H; exact H
       clear H
       have H := H1
       clear H1
       by_cases c24 : a1_1 = 0
       ·rw [if_pos c24] at H
        have c24b0 : (a1_1 == 0) = true := beq_iff_eq.mpr c24
        have c24b1 : (a1_1 != 0) = false := bne_eq_false_iff_eq.mpr c24
        clear c24
        have HC25 := Aside0.mk H
        clear H
        have hnb26 := NB214_213.out
        have hnc26 := NB213_214.out
        have hcz27_0 : wc.cell? ⟨gb214, 0, none⟩ = some (.int .i64 a1_0) := (blk_cell BK214.out 0).trans rfl
        have hcz27_1 : wc.cell? ⟨gb214, 1, none⟩ = some (.int .i64 a1_1) := (blk_cell BK214.out 1).trans rfl
        have hfz27_0 := blk_frozen BK214.out 0
        have hfz27_1 := blk_frozen BK214.out 1
        go_upto_region 9 with (fail)
        go_cut [33] (fun v33 wc => ∃ (kq : Nat) (x33_24 : Bool), v33 = .bool x33_24 ∧ Aside0 (steelyardref06_Verdict.j2 kq x33_24 a0_0 a0_1 a0_2 a0_3 a0_4 a0_5 = some (r1, r2)) ∧ Aside0 (kq ≤ kj14) ∧ Aside0 (wc.heap[gb213]? = some (.cells #[.int .i64 a0_0, .int .i64 a0_1, .int .i64 a0_2, .int .i64 a0_3, .int .i64 a0_4, .int .i64 a0_5] 30 (0, 0))) ∧ Aside0 (wc.heap[gb214]? = some (.cells #[.int .i64 a1_0, .int .i64 a1_1] 23 (0, 0))) ∧ Aside0 (Below w.heap.size w wc))
        case first =>
         have H := HC25.out
         clear HC25
         by_cases c28 : a0_1 > 0
         ·rw [if_pos c28] at H
          have c28b0 : decide (0 < a0_1) = true := decide_eq_true c28
          clear c28
          (first | rw [c28b0] | (simp only [i64_w, i32_w]; rw [c28b0]) | skip)
          have H' := Aside0.mk H
          clear H
          have hnb29 := NB213_214.out
          have hnc29 := NB214_213.out
          have hcz30_0 : wc.cell? ⟨gb213, 0, none⟩ = some (.int .i64 a0_0) := (blk_cell BK213.out 0).trans rfl
          have hcz30_1 : wc.cell? ⟨gb213, 1, none⟩ = some (.int .i64 a0_1) := (blk_cell BK213.out 1).trans rfl
          have hcz30_2 : wc.cell? ⟨gb213, 2, none⟩ = some (.int .i64 a0_2) := (blk_cell BK213.out 2).trans rfl
          have hcz30_3 : wc.cell? ⟨gb213, 3, none⟩ = some (.int .i64 a0_3) := (blk_cell BK213.out 3).trans rfl
          have hcz30_4 : wc.cell? ⟨gb213, 4, none⟩ = some (.int .i64 a0_4) := (blk_cell BK213.out 4).trans rfl
          have hcz30_5 : wc.cell? ⟨gb213, 5, none⟩ = some (.int .i64 a0_5) := (blk_cell BK213.out 5).trans rfl
          have hfz30_0 := blk_frozen BK213.out 0
          have hfz30_1 := blk_frozen BK213.out 1
          have hfz30_2 := blk_frozen BK213.out 2
          have hfz30_3 := blk_frozen BK213.out 3
          have hfz30_4 := blk_frozen BK213.out 4
          have hfz30_5 := blk_frozen BK213.out 5
          go_wp2
          go_meet
          case rel => exact ⟨_, (decide (a0_2 > 0)), (by first | rfl | (simp; done) | (simp [*]; done)), H', ⟨by have := HJ4.out; have := HJ14.out; first | omega | exact Nat.le_refl _⟩, ⟨by (with_reducible repeat (first | apply bN | apply bD | apply bA)); exact BK213.out⟩, ⟨by (with_reducible repeat (first | apply bN | apply bD | apply bA)); exact BK214.out⟩, ⟨bl_ HB⟩⟩
         ·rw [if_neg c28] at H
          have c28b0 : decide (0 < a0_1) = false := decide_eq_false c28
          clear c28
          (first | rw [c28b0] | (simp only [i64_w, i32_w]; rw [c28b0]) | skip)
          have H' := Aside0.mk H
          clear H
          have hnb31 := NB213_214.out
          have hnc31 := NB214_213.out
          have hcz32_0 : wc.cell? ⟨gb213, 0, none⟩ = some (.int .i64 a0_0) := (blk_cell BK213.out 0).trans rfl
          have hcz32_1 : wc.cell? ⟨gb213, 1, none⟩ = some (.int .i64 a0_1) := (blk_cell BK213.out 1).trans rfl
          have hcz32_2 : wc.cell? ⟨gb213, 2, none⟩ = some (.int .i64 a0_2) := (blk_cell BK213.out 2).trans rfl
          have hcz32_3 : wc.cell? ⟨gb213, 3, none⟩ = some (.int .i64 a0_3) := (blk_cell BK213.out 3).trans rfl
          have hcz32_4 : wc.cell? ⟨gb213, 4, none⟩ = some (.int .i64 a0_4) := (blk_cell BK213.out 4).trans rfl
          have hcz32_5 : wc.cell? ⟨gb213, 5, none⟩ = some (.int .i64 a0_5) := (blk_cell BK213.out 5).trans rfl
          have hfz32_0 := blk_frozen BK213.out 0
          have hfz32_1 := blk_frozen BK213.out 1
          have hfz32_2 := blk_frozen BK213.out 2
          have hfz32_3 := blk_frozen BK213.out 3
          have hfz32_4 := blk_frozen BK213.out 4
          have hfz32_5 := blk_frozen BK213.out 5
          go_wp2
          go_meet
          case rel => exact ⟨_, (false), (by first | rfl | (simp; done) | (simp [*]; done)), H', ⟨by have := HJ4.out; have := HJ14.out; first | omega | exact Nat.le_refl _⟩, ⟨by (with_reducible repeat (first | apply bN | apply bD | apply bA)); exact BK213.out⟩, ⟨by (with_reducible repeat (first | apply bN | apply bD | apply bA)); exact BK214.out⟩, ⟨bl_ HB⟩⟩
        case rest =>
         clear HC25
         try clear c1
         try clear c2
         try clear p2
         try clear c3
         try clear c8
         try clear c10
         try clear c13
         try clear c14
         try clear c16
         try clear c16b0
         try clear c17
         try clear c19
         try clear c20
         try clear c22
         try clear c24
         try clear c24b0
         try clear c24b1
         try clear c25
         try clear c26
         try clear c28
         try clear c28b0
         try clear c29
         try clear c31
         try clear hcz11_0
         try clear hcz11_1
         try clear hcz18_0
         try clear hcz18_1
         try clear hcz18_2
         try clear hcz18_3
         try clear hcz18_4
         try clear hcz18_5
         try clear hcz19_0
         try clear hcz19_1
         try clear hcz21_0
         try clear hcz21_1
         try clear hcz21_2
         try clear hcz21_3
         try clear hcz21_4
         try clear hcz21_5
         try clear hcz27_0
         try clear hcz27_1
         try clear hcz30_0
         try clear hcz30_1
         try clear hcz30_2
         try clear hcz30_3
         try clear hcz30_4
         try clear hcz30_5
         try clear hcz32_0
         try clear hcz32_1
         try clear hcz32_2
         try clear hcz32_3
         try clear hcz32_4
         try clear hcz32_5
         try clear hcz9_0
         try clear hcz9_1
         try clear hcz9_2
         try clear hcz9_3
         try clear hcz9_4
         try clear hcz9_5
         try clear hfz11_0
         try clear hfz11_1
         try clear hfz18_0
         try clear hfz18_1
         try clear hfz18_2
         try clear hfz18_3
         try clear hfz18_4
         try clear hfz18_5
         try clear hfz19_0
         try clear hfz19_1
         try clear hfz21_0
         try clear hfz21_1
         try clear hfz21_2
         try clear hfz21_3
         try clear hfz21_4
         try clear hfz21_5
         try clear hfz27_0
         try clear hfz27_1
         try clear hfz30_0
         try clear hfz30_1
         try clear hfz30_2
         try clear hfz30_3
         try clear hfz30_4
         try clear hfz30_5
         try clear hfz32_0
         try clear hfz32_1
         try clear hfz32_2
         try clear hfz32_3
         try clear hfz32_4
         try clear hfz32_5
         try clear hfz9_0
         try clear hfz9_1
         try clear hfz9_2
         try clear hfz9_3
         try clear hfz9_4
         try clear hfz9_5
         try clear p2
         obtain ⟨kq, x33_24, rfl, HA, HJ24, BK213, BK214, HB⟩ := hcut
         cases kq with
         | zero => exact absurd HA.out (by simp [steelyardref06_Verdict.j2])
         | succ kj24 =>
          have H := HA.out
          clear HA
          simp only [steelyardref06_Verdict.j2] at H
          by_cases c33 : x33_24 = true
          ·subst c33
           have H1 : ((steelyardref06_TheNaN.f).bind fun t218 => (some (t218, true))) = some (r1, r2) := by rw [if_pos rfl] at H; exact H
           clear H
           have H := H1
           clear H1
           obtain ⟨t218, A34, H⟩ := ob_ H
           try dsimp only at H
           simp only [Option.some.injEq, Prod.mk.injEq] at H
           obtain ⟨rfl, rfl⟩ := H
           go_wp2_with (first | ((with_reducible refine gate_callee (f := 25) rfl ?_); refine goesM (some 42) Try.func25 #[] ?_; (with_reducible refine (steelyardref06_TheNaN.calls  t218 _ A34.out).mono ?_); rintro e w' ⟨rfl, ⟨nd, rfl⟩⟩; refine ⟨_, rfl, ?_⟩))
           go_ret2
           exact ⟨by first | rfl | (simp [errW_none, errW_some] <;> rfl) | (simp [*, errW_none, errW_some] <;> rfl), bl_ HB⟩
          ·replace c33 := Bool.eq_false_iff.mpr c33
           subst c33
           have H1 : (if a0_1 > 0 then ((steelyardref06_Inf.f false).bind fun t219 => (some (t219, true))) else (if a0_2 > 0 then ((steelyardref06_Inf.f true).bind fun t220 => (some (t220, true))) else (some (0, false)))) = some (r1, r2) := by rw [if_neg (show ¬ (false = true) by decide)] at H; exact H
           clear H
           have H := H1
           clear H1
           by_cases c35 : a0_1 > 0
           ·rw [if_pos c35] at H
            have c35b0 : decide (0 < a0_1) = true := decide_eq_true c35
            clear c35
            obtain ⟨t219, A36, H⟩ := ob_ H
            try dsimp only at H
            simp only [Option.some.injEq, Prod.mk.injEq] at H
            obtain ⟨rfl, rfl⟩ := H
            have hnb37 := NB213_214.out
            have hnc37 := NB214_213.out
            have hcz38_0 : wc.cell? ⟨gb213, 0, none⟩ = some (.int .i64 a0_0) := (blk_cell BK213.out 0).trans rfl
            have hcz38_1 : wc.cell? ⟨gb213, 1, none⟩ = some (.int .i64 a0_1) := (blk_cell BK213.out 1).trans rfl
            have hcz38_2 : wc.cell? ⟨gb213, 2, none⟩ = some (.int .i64 a0_2) := (blk_cell BK213.out 2).trans rfl
            have hcz38_3 : wc.cell? ⟨gb213, 3, none⟩ = some (.int .i64 a0_3) := (blk_cell BK213.out 3).trans rfl
            have hcz38_4 : wc.cell? ⟨gb213, 4, none⟩ = some (.int .i64 a0_4) := (blk_cell BK213.out 4).trans rfl
            have hcz38_5 : wc.cell? ⟨gb213, 5, none⟩ = some (.int .i64 a0_5) := (blk_cell BK213.out 5).trans rfl
            have hfz38_0 := blk_frozen BK213.out 0
            have hfz38_1 := blk_frozen BK213.out 1
            have hfz38_2 := blk_frozen BK213.out 2
            have hfz38_3 := blk_frozen BK213.out 3
            have hfz38_4 := blk_frozen BK213.out 4
            have hfz38_5 := blk_frozen BK213.out 5
            go_wp2_with (first | ((with_reducible refine gate_callee (f := 26) rfl ?_); refine goesM (some 47) Try.func26 #[.bool false] ?_; (with_reducible refine (steelyardref06_Inf.calls false t219 _ A36.out).mono ?_); rintro e w' ⟨rfl, ⟨nd, rfl⟩⟩; refine ⟨_, rfl, ?_⟩))
            go_ret2
            exact ⟨by first | rfl | (simp [errW_none, errW_some] <;> rfl) | (simp [*, errW_none, errW_some] <;> rfl), bl_ HB⟩
           ·rw [if_neg c35] at H
            have c35b0 : decide (0 < a0_1) = false := decide_eq_false c35
            clear c35
            by_cases c39 : a0_2 > 0
            ·rw [if_pos c39] at H
             have c39b0 : decide (0 < a0_2) = true := decide_eq_true c39
             clear c39
             obtain ⟨t220, A40, H⟩ := ob_ H
             try dsimp only at H
             simp only [Option.some.injEq, Prod.mk.injEq] at H
             obtain ⟨rfl, rfl⟩ := H
             have hnb41 := NB213_214.out
             have hnc41 := NB214_213.out
             have hcz42_0 : wc.cell? ⟨gb213, 0, none⟩ = some (.int .i64 a0_0) := (blk_cell BK213.out 0).trans rfl
             have hcz42_1 : wc.cell? ⟨gb213, 1, none⟩ = some (.int .i64 a0_1) := (blk_cell BK213.out 1).trans rfl
             have hcz42_2 : wc.cell? ⟨gb213, 2, none⟩ = some (.int .i64 a0_2) := (blk_cell BK213.out 2).trans rfl
             have hcz42_3 : wc.cell? ⟨gb213, 3, none⟩ = some (.int .i64 a0_3) := (blk_cell BK213.out 3).trans rfl
             have hcz42_4 : wc.cell? ⟨gb213, 4, none⟩ = some (.int .i64 a0_4) := (blk_cell BK213.out 4).trans rfl
             have hcz42_5 : wc.cell? ⟨gb213, 5, none⟩ = some (.int .i64 a0_5) := (blk_cell BK213.out 5).trans rfl
             have hfz42_0 := blk_frozen BK213.out 0
             have hfz42_1 := blk_frozen BK213.out 1
             have hfz42_2 := blk_frozen BK213.out 2
             have hfz42_3 := blk_frozen BK213.out 3
             have hfz42_4 := blk_frozen BK213.out 4
             have hfz42_5 := blk_frozen BK213.out 5
             go_wp2_with (first | ((with_reducible refine gate_callee (f := 26) rfl ?_); refine goesM (some 52) Try.func26 #[.bool true] ?_; (with_reducible refine (steelyardref06_Inf.calls true t220 _ A40.out).mono ?_); rintro e w' ⟨rfl, ⟨nd, rfl⟩⟩; refine ⟨_, rfl, ?_⟩))
             go_ret2
             exact ⟨by first | rfl | (simp [errW_none, errW_some] <;> rfl) | (simp [*, errW_none, errW_some] <;> rfl), bl_ HB⟩
            ·rw [if_neg c39] at H
             have c39b0 : decide (0 < a0_2) = false := decide_eq_false c39
             clear c39
             simp only [Option.some.injEq, Prod.mk.injEq] at H
             obtain ⟨rfl, rfl⟩ := H
             have hnb43 := NB213_214.out
             have hnc43 := NB214_213.out
             have hcz44_0 : wc.cell? ⟨gb213, 0, none⟩ = some (.int .i64 a0_0) := (blk_cell BK213.out 0).trans rfl
             have hcz44_1 : wc.cell? ⟨gb213, 1, none⟩ = some (.int .i64 a0_1) := (blk_cell BK213.out 1).trans rfl
             have hcz44_2 : wc.cell? ⟨gb213, 2, none⟩ = some (.int .i64 a0_2) := (blk_cell BK213.out 2).trans rfl
             have hcz44_3 : wc.cell? ⟨gb213, 3, none⟩ = some (.int .i64 a0_3) := (blk_cell BK213.out 3).trans rfl
             have hcz44_4 : wc.cell? ⟨gb213, 4, none⟩ = some (.int .i64 a0_4) := (blk_cell BK213.out 4).trans rfl
             have hcz44_5 : wc.cell? ⟨gb213, 5, none⟩ = some (.int .i64 a0_5) := (blk_cell BK213.out 5).trans rfl
             have hfz44_0 := blk_frozen BK213.out 0
             have hfz44_1 := blk_frozen BK213.out 1
             have hfz44_2 := blk_frozen BK213.out 2
             have hfz44_3 := blk_frozen BK213.out 3
             have hfz44_4 := blk_frozen BK213.out 4
             have hfz44_5 := blk_frozen BK213.out 5
             go_wp2
             go_ret2
             exact ⟨by first | rfl | (simp [errW_none, errW_some] <;> rfl) | (simp [*, errW_none, errW_some] <;> rfl), bl_ HB⟩
       ·rw [if_neg c24] at H
        have c24b0 : (a1_1 == 0) = false := beq_eq_false_iff_ne.mpr c24
        have c24b1 : (a1_1 != 0) = true := bne_iff_ne.mpr c24
        simp only [Option.some.injEq, Prod.mk.injEq] at H
        obtain ⟨rfl, rfl⟩ := H
        have hnb45 := NB214_213.out
        have hnc45 := NB213_214.out
        have hcz46_0 : wc.cell? ⟨gb214, 0, none⟩ = some (.int .i64 a1_0) := (blk_cell BK214.out 0).trans rfl
        have hcz46_1 : wc.cell? ⟨gb214, 1, none⟩ = some (.int .i64 a1_1) := (blk_cell BK214.out 1).trans rfl
        have hfz46_0 := blk_frozen BK214.out 0
        have hfz46_1 := blk_frozen BK214.out 1
        go_wp2
        go_ret2
        exact ⟨by first | rfl | (simp [errW_none, errW_some] <;> rfl) | (simp [*, errW_none, errW_some] <;> rfl), bl_ HB⟩

end Go.Proofs.Ytkoonpjlpobmeaa.Pr
