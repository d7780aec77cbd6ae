-- short
-- written by this session's own program (wip/fprint.py), which widens the kit's print by floats
import Derived.Test.YtkoonpjlpobmeaaWShort
import Derived.Test.YtkoonpjlpobmeaaPr0
import Derived.Test.YtkoonpjlpobmeaaPr3
import Derived.Test.YtkoonpjlpobmeaaPr9
namespace Go.Proofs.Ytkoonpjlpobmeaa.Pr
open Go.RowKit Go.Proofs.YtkoonpjlpobmeaaW.PrintWords Go.Proofs.YtkoonpjlpobmeaaW.PrintLast Go.Proofs.YtkoonpjlpobmeaaW.PrintMore
attribute [local go_sem] max2_int min2_int max_two min_two max_three min_three max_four min_four   -- for this text's walks alone
set_option linter.unusedVariables false
set_option linter.unusedSimpArgs false

/-! ### policy_Verdict: function 18 -/
mutual
def policy_Verdict.j0 : Nat → Bool → Int → Int → Int → Int → Int → Int → Int → Int → Option (Nat × Bool)
 | 0, _, _, _, _, _, _, _, _, _ => none
 | k + 1, x15, x143000, x143001, x143002, x143003, x143004, x143005, x144000, x144001 => if x15 = true then (some (0, false)) else (if x143001 > 0 then (if x143002 > 0 then (policy_Verdict.j1 k (x144001 == 0) (x144001 == 0) x143000 x143001 x143002 x143003 x143004 x143005 x144000 x144001) else (policy_Verdict.j1 k (x144001 == 0) false x143000 x143001 x143002 x143003 x143004 x143005 x144000 x144001)) else (if x143002 > 0 then (policy_Verdict.j1 k false (x144001 == 0) x143000 x143001 x143002 x143003 x143004 x143005 x144000 x144001) else (policy_Verdict.j1 k false false x143000 x143001 x143002 x143003 x143004 x143005 x144000 x144001)))
def policy_Verdict.j1 : Nat → Bool → Bool → Int → Int → Int → Int → Int → Int → Int → Int → Option (Nat × Bool)
 | 0, _, _, _, _, _, _, _, _, _, _ => none
 | k + 1, x6, x7, x143000, x143001, x143002, x143003, x143004, x143005, x144000, x144001 => if x143000 > 0 then (policy_Verdict.j2 k x6 x7 (x144000 == 0)) else (policy_Verdict.j2 k x6 x7 false)
def policy_Verdict.j2 : Nat → Bool → Bool → Bool → Option (Nat × Bool)
 | 0, _, _, _ => none
 | k + 1, x6, x7, x32 => if x32 = true then (policy_Verdict.j3 k x6 x7 x32) else (if x6 = true then (policy_Verdict.j3 k x6 x7 x7) else (policy_Verdict.j3 k x6 x7 false))
def policy_Verdict.j3 : Nat → Bool → Bool → Bool → Option (Nat × Bool)
 | 0, _, _, _ => none
 | k + 1, x6, x7, x32 => if x32 = true then ((bits_NaN.f).bind fun t146 => (some (t146, true))) else (if x6 = true then ((math_Inf.f 1).bind fun t147 => (some (t147, true))) else (if x7 = true then ((math_Inf.f (-1)).bind fun t148 => (some (t148, true))) else (some (0, false))))
end
def policy_Verdict.f (k : Nat) (a0_0 : Int) (a0_1 : Int) (a0_2 : Int) (a0_3 : Int) (a0_4 : Int) (a0_5 : Int) (a1_0 : Int) (a1_1 : Int) : Option (Nat × Bool) := (policy_mayBe.f a0_0 a0_1 a0_2 a0_3 a0_4 a0_5).bind fun t144 => (if t144 = true then ((policy_May.f a1_0 a1_1).bind fun t145 => (policy_Verdict.j0 k (!t145) a0_0 a0_1 a0_2 a0_3 a0_4 a0_5 a1_0 a1_1)) else (policy_Verdict.j0 k true a0_0 a0_1 a0_2 a0_3 a0_4 a0_5 a1_0 a1_1))
theorem policy_Verdict.mono_l : ∀ k, (∀ y0 y1 y2 y3 y4 y5 y6 y7 y8, LeO (policy_Verdict.j0 k y0 y1 y2 y3 y4 y5 y6 y7 y8) (policy_Verdict.j0 (k + 1) y0 y1 y2 y3 y4 y5 y6 y7 y8)) ∧ (∀ y0 y1 y2 y3 y4 y5 y6 y7 y8 y9, LeO (policy_Verdict.j1 k y0 y1 y2 y3 y4 y5 y6 y7 y8 y9) (policy_Verdict.j1 (k + 1) y0 y1 y2 y3 y4 y5 y6 y7 y8 y9)) ∧ (∀ y0 y1 y2, LeO (policy_Verdict.j2 k y0 y1 y2) (policy_Verdict.j2 (k + 1) y0 y1 y2)) ∧ (∀ y0 y1 y2, LeO (policy_Verdict.j3 k y0 y1 y2) (policy_Verdict.j3 (k + 1) y0 y1 y2))
 | 0 => ⟨fun _ _ _ _ _ _ _ _ _ r h => by simp [policy_Verdict.j0] at h, fun _ _ _ _ _ _ _ _ _ _ r h => by simp [policy_Verdict.j1] at h, fun _ _ _ r h => by simp [policy_Verdict.j2] at h, fun _ _ _ r h => by simp [policy_Verdict.j3] at h⟩
 | k + 1 => by
  obtain ⟨ih0, ih1, ih2, ih3⟩ := policy_Verdict.mono_l k
  refine ⟨?_, ?_, ?_, ?_⟩
  ·intro y0 y1 y2 y3 y4 y5 y6 y7 y8
   unfold policy_Verdict.j0
   repeat' first
   | (with_reducible exact ih0 _ _ _ _ _ _ _ _ _)
   | (with_reducible exact ih1 _ _ _ _ _ _ _ _ _ _)
   | (with_reducible exact ih2 _ _ _)
   | (with_reducible exact ih3 _ _ _)
   | (with_reducible exact LeO.refl _)
   | (with_reducible exact LeO.none _)
   | (with_reducible refine LeO.ite ?_ ?_)
   | (with_reducible refine LeO.bind ?_ (fun _ => ?_))
   | exact ih0 _ _ _ _ _ _ _ _ _
   | exact ih1 _ _ _ _ _ _ _ _ _ _
   | exact ih2 _ _ _
   | exact ih3 _ _ _
   | exact LeO.none _
   | refine LeO.ite ?_ ?_
   | refine LeO.bind ?_ (fun _ => ?_)
  ·intro y0 y1 y2 y3 y4 y5 y6 y7 y8 y9
   unfold policy_Verdict.j1
   repeat' first
   | (with_reducible exact ih0 _ _ _ _ _ _ _ _ _)
   | (with_reducible exact ih1 _ _ _ _ _ _ _ _ _ _)
   | (with_reducible exact ih2 _ _ _)
   | (with_reducible exact ih3 _ _ _)
   | (with_reducible exact LeO.refl _)
   | (with_reducible exact LeO.none _)
   | (with_reducible refine LeO.ite ?_ ?_)
   | (with_reducible refine LeO.bind ?_ (fun _ => ?_))
   | exact ih0 _ _ _ _ _ _ _ _ _
   | exact ih1 _ _ _ _ _ _ _ _ _ _
   | exact ih2 _ _ _
   | exact ih3 _ _ _
   | exact LeO.none _
   | refine LeO.ite ?_ ?_
   | refine LeO.bind ?_ (fun _ => ?_)
  ·intro y0 y1 y2
   unfold policy_Verdict.j2
   repeat' first
   | (with_reducible exact ih0 _ _ _ _ _ _ _ _ _)
   | (with_reducible exact ih1 _ _ _ _ _ _ _ _ _ _)
   | (with_reducible exact ih2 _ _ _)
   | (with_reducible exact ih3 _ _ _)
   | (with_reducible exact LeO.refl _)
   | (with_reducible exact LeO.none _)
   | (with_reducible refine LeO.ite ?_ ?_)
   | (with_reducible refine LeO.bind ?_ (fun _ => ?_))
   | exact ih0 _ _ _ _ _ _ _ _ _
   | exact ih1 _ _ _ _ _ _ _ _ _ _
   | exact ih2 _ _ _
   | exact ih3 _ _ _
   | exact LeO.none _
   | refine LeO.ite ?_ ?_
   | refine LeO.bind ?_ (fun _ => ?_)
  ·intro y0 y1 y2
   unfold policy_Verdict.j3
   repeat' first
   | (with_reducible exact ih0 _ _ _ _ _ _ _ _ _)
   | (with_reducible exact ih1 _ _ _ _ _ _ _ _ _ _)
   | (with_reducible exact ih2 _ _ _)
   | (with_reducible exact ih3 _ _ _)
   | (with_reducible exact LeO.refl _)
   | (with_reducible exact LeO.none _)
   | (with_reducible refine LeO.ite ?_ ?_)
   | (with_reducible refine LeO.bind ?_ (fun _ => ?_))
   | exact ih0 _ _ _ _ _ _ _ _ _
   | exact ih1 _ _ _ _ _ _ _ _ _ _
   | exact ih2 _ _ _
   | exact ih3 _ _ _
   | exact LeO.none _
   | refine LeO.ite ?_ ?_
   | refine LeO.bind ?_ (fun _ => ?_)
theorem policy_Verdict.mono : ∀ a0 a1 a2 a3 a4 a5 a6 a7 k, LeO (policy_Verdict.f k a0 a1 a2 a3 a4 a5 a6 a7) (policy_Verdict.f (k + 1) a0 a1 a2 a3 a4 a5 a6 a7) := by
 intro a0 a1 a2 a3 a4 a5 a6 a7 k
 obtain ⟨ih0, ih1, ih2, ih3⟩ := policy_Verdict.mono_l k
 unfold policy_Verdict.f
 repeat' first
   | (with_reducible exact ih0 _ _ _ _ _ _ _ _ _)
   | (with_reducible exact ih1 _ _ _ _ _ _ _ _ _ _)
   | (with_reducible exact ih2 _ _ _)
   | (with_reducible exact ih3 _ _ _)
   | (with_reducible exact LeO.refl _)
   | (with_reducible exact LeO.none _)
   | (with_reducible refine LeO.ite ?_ ?_)
   | (with_reducible refine LeO.bind ?_ (fun _ => ?_))
   | exact ih0 _ _ _ _ _ _ _ _ _
   | exact ih1 _ _ _ _ _ _ _ _ _ _
   | exact ih2 _ _ _
   | exact ih3 _ _ _
   | exact LeO.none _
   | refine LeO.ite ?_ ?_
   | refine LeO.bind ?_ (fun _ => ?_)
set_option maxHeartbeats 3000000 in
set_option maxRecDepth 100000 in
theorem policy_Verdict.calls (k : Nat) (a0_0 : Int) (a0_1 : Int) (a0_2 : Int) (a0_3 : Int) (a0_4 : Int) (a0_5 : Int) (a1_0 : Int) (a1_1 : Int) (r1 : Nat) (r2 : Bool) (w : World) (h : policy_Verdict.f k a0_0 a0_1 a0_2 a0_3 a0_4 a0_5 a1_0 a1_1 = some (r1, r2)) :
  Calls Try.prog 18 #[.agg #[.int .i64 a0_0, .int .i64 a0_1, .int .i64 a0_2, .int .i64 a0_3, .int .i64 a0_4, .int .i64 a0_5], .agg #[.int .i64 a1_0, .int .i64 a1_1]] w fun e w' => e = .returned (.tuple #[.float .f64 r1, .bool r2]) ∧ Below w.heap.size w w' := by
 have hu30 := Try.underlying30
 have hu23 := Try.underlying23
 have HB := Aside0.mk (Below.refl w.heap.size w)
 have H : ((policy_mayBe.f a0_0 a0_1 a0_2 a0_3 a0_4 a0_5).bind fun t144 => (if t144 = true then ((policy_May.f a1_0 a1_1).bind fun t145 => (policy_Verdict.j0 k (!t145) a0_0 a0_1 a0_2 a0_3 a0_4 a0_5 a1_0 a1_1)) else (policy_Verdict.j0 k true a0_0 a0_1 a0_2 a0_3 a0_4 a0_5 a1_0 a1_1))) = some (r1, r2) := h
 clear h
 have HC3 := Aside0.mk H
 clear H
 go_enter Try.func18, Try.ntmps18
 go_upto_region 1 with (first | ((with_reducible refine gate_dst (N := 2) rfl ?_); refine box_event ?hg (N := 2) ?hd (cs := #[.int .i64 a0_0, .int .i64 a0_1, .int .i64 a0_2, .int .i64 a0_3, .int .i64 a0_4, .int .i64 a0_5]) (t := 30) ?hr ?_; (case hd => rfl); (case hg => rfl); (case hr => first | (go_simp; done) | (go_simp; rfl)); intro gb142 hg w4 hbox hb; have n0_ := bs_ HB hb; have n1_ := Aside0.mk (hbox); have n2_ := ge_ HB hg; have n3_ := ge_ HB hg; clear HB; have HB := n0_; have BK142 := n1_; have GW142 := n2_; have GE142 := n3_; clear n0_ n1_ n2_ n3_; clear hb hbox hg) | ((with_reducible refine gate_dst (N := 3) rfl ?_); refine box_event ?hg (N := 3) ?hd (cs := #[.int .i64 a1_0, .int .i64 a1_1]) (t := 23) ?hr ?_; (case hd => rfl); (case hg => rfl); (case hr => first | (go_simp; done) | (go_simp; rfl)); intro gb143 hg w5 hbox hb; have n0_ := kb_ BK142 hb; have n1_ := bs_ HB hb; have n2_ := Aside0.mk (hbox); have n3_ := ge_ HB hg; have n4_ := ge_ HB hg; have n5_ := nlt_ BK142 hg; have n6_ := ngt_ BK142 hg; clear BK142; clear HB; have BK142 := n0_; have HB := n1_; have BK143 := n2_; have GW143 := n3_; have GE143 := n4_; have NB142_143 := n5_; have NB143_142 := n6_; clear n0_ n1_ n2_ n3_ n4_ n5_ n6_; clear hb hbox hg))
 repeat (go_quiet (first | ((with_reducible refine gate_dst (N := 2) rfl ?_); refine box_event ?hg (N := 2) ?hd (cs := #[.int .i64 a0_0, .int .i64 a0_1, .int .i64 a0_2, .int .i64 a0_3, .int .i64 a0_4, .int .i64 a0_5]) (t := 30) ?hr ?_; (case hd => rfl); (case hg => rfl); (case hr => first | (go_simp; done) | (go_simp; rfl)); intro gb142 hg w4 hbox hb; have n0_ := bs_ HB hb; have n1_ := Aside0.mk (hbox); have n2_ := ge_ HB hg; have n3_ := ge_ HB hg; clear HB; have HB := n0_; have BK142 := n1_; have GW142 := n2_; have GE142 := n3_; clear n0_ n1_ n2_ n3_; clear hb hbox hg) | ((with_reducible refine gate_dst (N := 3) rfl ?_); refine box_event ?hg (N := 3) ?hd (cs := #[.int .i64 a1_0, .int .i64 a1_1]) (t := 23) ?hr ?_; (case hd => rfl); (case hg => rfl); (case hr => first | (go_simp; done) | (go_simp; rfl)); intro gb143 hg w5 hbox hb; have n0_ := kb_ BK142 hb; have n1_ := bs_ HB hb; have n2_ := Aside0.mk (hbox); have n3_ := ge_ HB hg; have n4_ := ge_ HB hg; have n5_ := nlt_ BK142 hg; have n6_ := ngt_ BK142 hg; clear BK142; clear HB; have BK142 := n0_; have HB := n1_; have BK143 := n2_; have GW143 := n3_; have GE143 := n4_; have NB142_143 := n5_; have NB143_142 := n6_; clear n0_ n1_ n2_ n3_ n4_ n5_ n6_; clear hb hbox hg)); go_upto_region 1 with (first | ((with_reducible refine gate_dst (N := 2) rfl ?_); refine box_event ?hg (N := 2) ?hd (cs := #[.int .i64 a0_0, .int .i64 a0_1, .int .i64 a0_2, .int .i64 a0_3, .int .i64 a0_4, .int .i64 a0_5]) (t := 30) ?hr ?_; (case hd => rfl); (case hg => rfl); (case hr => first | (go_simp; done) | (go_simp; rfl)); intro gb142 hg w4 hbox hb; have n0_ := bs_ HB hb; have n1_ := Aside0.mk (hbox); have n2_ := ge_ HB hg; have n3_ := ge_ HB hg; clear HB; have HB := n0_; have BK142 := n1_; have GW142 := n2_; have GE142 := n3_; clear n0_ n1_ n2_ n3_; clear hb hbox hg) | ((with_reducible refine gate_dst (N := 3) rfl ?_); refine box_event ?hg (N := 3) ?hd (cs := #[.int .i64 a1_0, .int .i64 a1_1]) (t := 23) ?hr ?_; (case hd => rfl); (case hg => rfl); (case hr => first | (go_simp; done) | (go_simp; rfl)); intro gb143 hg w5 hbox hb; have n0_ := kb_ BK142 hb; have n1_ := bs_ HB hb; have n2_ := Aside0.mk (hbox); have n3_ := ge_ HB hg; have n4_ := ge_ HB hg; have n5_ := nlt_ BK142 hg; have n6_ := ngt_ BK142 hg; clear BK142; clear HB; have BK142 := n0_; have HB := n1_; have BK143 := n2_; have GW143 := n3_; have GE143 := n4_; have NB142_143 := n5_; have NB143_142 := n6_; clear n0_ n1_ n2_ n3_ n4_ n5_ n6_; clear hb hbox hg)))
 (try simp only [Act.put, List.setIfInBounds_toArray, List.set_cons_zero, List.set_cons_succ])
 go_cut [15] (fun v15 wc => ∃ (kq : Nat) (x15_2 : Bool), v15 = .bool x15_2 ∧ Aside0 (policy_Verdict.j0 kq x15_2 a0_0 a0_1 a0_2 a0_3 a0_4 a0_5 a1_0 a1_1 = some (r1, r2)) ∧ Aside0 (kq ≤ k) ∧ Aside0 (wc.heap[gb142]? = some (.cells #[.int .i64 a0_0, .int .i64 a0_1, .int .i64 a0_2, .int .i64 a0_3, .int .i64 a0_4, .int .i64 a0_5] 30 (0, 0))) ∧ Aside0 (wc.heap[gb143]? = some (.cells #[.int .i64 a1_0, .int .i64 a1_1] 23 (0, 0))) ∧ Aside0 (Below w.heap.size w wc))
 case first =>
  have H := HC3.out
  clear HC3
  obtain ⟨t144, A6, H⟩ := ob_ H
  try dsimp only at H
  by_cases c7 : t144 = true
  ·subst c7
   have H1 : ((policy_May.f a1_0 a1_1).bind fun t145 => (policy_Verdict.j0 k (!t145) a0_0 a0_1 a0_2 a0_3 a0_4 a0_5 a1_0 a1_1)) = some (r1, r2) := by rw [if_pos rfl] at H; exact H
   clear H
   have H := H1
   clear H1
   obtain ⟨t145, A8, H⟩ := ob_ H
   try dsimp only at H
   have H' := Aside0.mk H
   clear H
   have hnb9 := NB142_143.out
   have hnc9 := NB143_142.out
   have hcz10_0 : w5.cell? ⟨gb142, 0, none⟩ = some (.int .i64 a0_0) := (blk_cell BK142.out 0).trans rfl
   have hcz10_1 : w5.cell? ⟨gb142, 1, none⟩ = some (.int .i64 a0_1) := (blk_cell BK142.out 1).trans rfl
   have hcz10_2 : w5.cell? ⟨gb142, 2, none⟩ = some (.int .i64 a0_2) := (blk_cell BK142.out 2).trans rfl
   have hcz10_3 : w5.cell? ⟨gb142, 3, none⟩ = some (.int .i64 a0_3) := (blk_cell BK142.out 3).trans rfl
   have hcz10_4 : w5.cell? ⟨gb142, 4, none⟩ = some (.int .i64 a0_4) := (blk_cell BK142.out 4).trans rfl
   have hcz10_5 : w5.cell? ⟨gb142, 5, none⟩ = some (.int .i64 a0_5) := (blk_cell BK142.out 5).trans rfl
   have hfz10_0 := blk_frozen BK142.out 0
   have hfz10_1 := blk_frozen BK142.out 1
   have hfz10_2 := blk_frozen BK142.out 2
   have hfz10_3 := blk_frozen BK142.out 3
   have hfz10_4 := blk_frozen BK142.out 4
   have hfz10_5 := blk_frozen BK142.out 5
   go_wp2_with (first | (go_at_call 33; (with_reducible refine (policy_mayBe.calls a0_0 a0_1 a0_2 a0_3 a0_4 a0_5 true _ A6.out).mono ?_); rintro e w11 ⟨rfl, hb⟩; have n0_ := kb_ BK142 hb; have n1_ := kb_ BK143 hb; have n2_ := bs_ HB hb; clear BK142; clear BK143; clear HB; have BK142 := n0_; have BK143 := n1_; have HB := n2_; clear n0_ n1_ n2_; (try clear hb); (try clear hb2); (try clear hk); (try clear hi); have hcz12_0 : w11.cell? ⟨gb143, 0, none⟩ = some (.int .i64 a1_0) := (blk_cell BK143.out 0).trans rfl; have hcz12_1 : w11.cell? ⟨gb143, 1, none⟩ = some (.int .i64 a1_1) := (blk_cell BK143.out 1).trans rfl; have hfz12_0 := blk_frozen BK143.out 0; have hfz12_1 := blk_frozen BK143.out 1) | (go_at_call 8; (with_reducible refine (policy_May.calls a1_0 a1_1 t145 _ A8.out).mono ?_); rintro e w13 ⟨rfl, hb⟩; have n0_ := kb_ BK142 hb; have n1_ := kb_ BK143 hb; have n2_ := bs_ HB hb; clear BK142; clear BK143; clear HB; have BK142 := n0_; have BK143 := n1_; have HB := n2_; clear n0_ n1_ n2_; (try clear hb); (try clear hb2); (try clear hk); (try clear hi)))
   repeat (go_quiet (first | (go_at_call 33; (with_reducible refine (policy_mayBe.calls a0_0 a0_1 a0_2 a0_3 a0_4 a0_5 true _ A6.out).mono ?_); rintro e w11 ⟨rfl, hb⟩; have n0_ := kb_ BK142 hb; have n1_ := kb_ BK143 hb; have n2_ := bs_ HB hb; clear BK142; clear BK143; clear HB; have BK142 := n0_; have BK143 := n1_; have HB := n2_; clear n0_ n1_ n2_; (try clear hb); (try clear hb2); (try clear hk); (try clear hi); have hcz12_0 : w11.cell? ⟨gb143, 0, none⟩ = some (.int .i64 a1_0) := (blk_cell BK143.out 0).trans rfl; have hcz12_1 : w11.cell? ⟨gb143, 1, none⟩ = some (.int .i64 a1_1) := (blk_cell BK143.out 1).trans rfl; have hfz12_0 := blk_frozen BK143.out 0; have hfz12_1 := blk_frozen BK143.out 1) | (go_at_call 8; (with_reducible refine (policy_May.calls a1_0 a1_1 t145 _ A8.out).mono ?_); rintro e w13 ⟨rfl, hb⟩; have n0_ := kb_ BK142 hb; have n1_ := kb_ BK143 hb; have n2_ := bs_ HB hb; clear BK142; clear BK143; clear HB; have BK142 := n0_; have BK143 := n1_; have HB := n2_; clear n0_ n1_ n2_; (try clear hb); (try clear hb2); (try clear hk); (try clear hi))); try go_wp2_with (first | (go_at_call 33; (with_reducible refine (policy_mayBe.calls a0_0 a0_1 a0_2 a0_3 a0_4 a0_5 true _ A6.out).mono ?_); rintro e w11 ⟨rfl, hb⟩; have n0_ := kb_ BK142 hb; have n1_ := kb_ BK143 hb; have n2_ := bs_ HB hb; clear BK142; clear BK143; clear HB; have BK142 := n0_; have BK143 := n1_; have HB := n2_; clear n0_ n1_ n2_; (try clear hb); (try clear hb2); (try clear hk); (try clear hi); have hcz12_0 : w11.cell? ⟨gb143, 0, none⟩ = some (.int .i64 a1_0) := (blk_cell BK143.out 0).trans rfl; have hcz12_1 : w11.cell? ⟨gb143, 1, none⟩ = some (.int .i64 a1_1) := (blk_cell BK143.out 1).trans rfl; have hfz12_0 := blk_frozen BK143.out 0; have hfz12_1 := blk_frozen BK143.out 1) | (go_at_call 8; (with_reducible refine (policy_May.calls a1_0 a1_1 t145 _ A8.out).mono ?_); rintro e w13 ⟨rfl, hb⟩; have n0_ := kb_ BK142 hb; have n1_ := kb_ BK143 hb; have n2_ := bs_ HB hb; clear BK142; clear BK143; clear HB; have BK142 := n0_; have BK143 := n1_; have HB := n2_; clear n0_ n1_ n2_; (try clear hb); (try clear hb2); (try clear hk); (try clear hi))))
   go_meet
   case rel => exact ⟨_, (!t145), (by first | rfl | (simp; done) | (simp [*]; done)), H', ⟨by first | omega | exact Nat.le_refl _⟩, ⟨by (with_reducible repeat (first | apply bN | apply bD | apply bA)); exact BK142.out⟩, ⟨by (with_reducible repeat (first | apply bN | apply bD | apply bA)); exact BK143.out⟩, ⟨bl_ HB⟩⟩
  ·replace c7 := Bool.eq_false_iff.mpr c7
   subst c7
   have H1 : (policy_Verdict.j0 k true a0_0 a0_1 a0_2 a0_3 a0_4 a0_5 a1_0 a1_1) = some (r1, r2) := by rw [if_neg (show ¬ (false = true) by decide)] at H; exact H
   clear H
   have H := H1
   clear H1
   have H' := Aside0.mk H
   clear H
   have hnb14 := NB142_143.out
   have hnc14 := NB143_142.out
   have hcz15_0 : w5.cell? ⟨gb142, 0, none⟩ = some (.int .i64 a0_0) := (blk_cell BK142.out 0).trans rfl
   have hcz15_1 : w5.cell? ⟨gb142, 1, none⟩ = some (.int .i64 a0_1) := (blk_cell BK142.out 1).trans rfl
   have hcz15_2 : w5.cell? ⟨gb142, 2, none⟩ = some (.int .i64 a0_2) := (blk_cell BK142.out 2).trans rfl
   have hcz15_3 : w5.cell? ⟨gb142, 3, none⟩ = some (.int .i64 a0_3) := (blk_cell BK142.out 3).trans rfl
   have hcz15_4 : w5.cell? ⟨gb142, 4, none⟩ = some (.int .i64 a0_4) := (blk_cell BK142.out 4).trans rfl
   have hcz15_5 : w5.cell? ⟨gb142, 5, none⟩ = some (.int .i64 a0_5) := (blk_cell BK142.out 5).trans rfl
   have hfz15_0 := blk_frozen BK142.out 0
   have hfz15_1 := blk_frozen BK142.out 1
   have hfz15_2 := blk_frozen BK142.out 2
   have hfz15_3 := blk_frozen BK142.out 3
   have hfz15_4 := blk_frozen BK142.out 4
   have hfz15_5 := blk_frozen BK142.out 5
   go_wp2_with (first | (go_at_call 33; (with_reducible refine (policy_mayBe.calls a0_0 a0_1 a0_2 a0_3 a0_4 a0_5 false _ A6.out).mono ?_); rintro e w16 ⟨rfl, hb⟩; have n0_ := kb_ BK142 hb; have n1_ := kb_ BK143 hb; have n2_ := bs_ HB hb; clear BK142; clear BK143; clear HB; have BK142 := n0_; have BK143 := n1_; have HB := n2_; clear n0_ n1_ n2_; (try clear hb); (try clear hb2); (try clear hk); (try clear hi)))
   repeat (go_quiet (first | (go_at_call 33; (with_reducible refine (policy_mayBe.calls a0_0 a0_1 a0_2 a0_3 a0_4 a0_5 false _ A6.out).mono ?_); rintro e w16 ⟨rfl, hb⟩; have n0_ := kb_ BK142 hb; have n1_ := kb_ BK143 hb; have n2_ := bs_ HB hb; clear BK142; clear BK143; clear HB; have BK142 := n0_; have BK143 := n1_; have HB := n2_; clear n0_ n1_ n2_; (try clear hb); (try clear hb2); (try clear hk); (try clear hi))); try go_wp2_with (first | (go_at_call 33; (with_reducible refine (policy_mayBe.calls a0_0 a0_1 a0_2 a0_3 a0_4 a0_5 false _ A6.out).mono ?_); rintro e w16 ⟨rfl, hb⟩; have n0_ := kb_ BK142 hb; have n1_ := kb_ BK143 hb; have n2_ := bs_ HB hb; clear BK142; clear BK143; clear HB; have BK142 := n0_; have BK143 := n1_; have HB := n2_; clear n0_ n1_ n2_; (try clear hb); (try clear hb2); (try clear hk); (try clear hi))))
   go_meet
   case rel => exact ⟨_, (true), (by first | rfl | (simp; done) | (simp [*]; done)), H', ⟨by first | omega | exact Nat.le_refl _⟩, ⟨by (with_reducible repeat (first | apply bN | apply bD | apply bA)); exact BK142.out⟩, ⟨by (with_reducible repeat (first | apply bN | apply bD | apply bA)); exact BK143.out⟩, ⟨bl_ HB⟩⟩
 case rest =>
  clear HC3
  try clear c1
  try clear p2
  try clear c7
  try clear c9
  try clear c14
  try clear hcz10_0
  try clear hcz10_1
  try clear hcz10_2
  try clear hcz10_3
  try clear hcz10_4
  try clear hcz10_5
  try clear hcz12_0
  try clear hcz12_1
  try clear hcz15_0
  try clear hcz15_1
  try clear hcz15_2
  try clear hcz15_3
  try clear hcz15_4
  try clear hcz15_5
  try clear hfz10_0
  try clear hfz10_1
  try clear hfz10_2
  try clear hfz10_3
  try clear hfz10_4
  try clear hfz10_5
  try clear hfz12_0
  try clear hfz12_1
  try clear hfz15_0
  try clear hfz15_1
  try clear hfz15_2
  try clear hfz15_3
  try clear hfz15_4
  try clear hfz15_5
  obtain ⟨kq, x15_2, rfl, HA, HJ2, BK142, BK143, HB⟩ := hcut
  cases kq with
  | zero => exact absurd HA.out (by simp [policy_Verdict.j0])
  | succ kj2 =>
   have H := HA.out
   clear HA
   simp only [policy_Verdict.j0] at H
   by_cases c17 : x15_2 = true
   ·subst c17
    have H1 : (some (0, false)) = some (r1, r2) := by rw [if_pos rfl] at H; exact H
    clear H
    have H := H1
    clear H1
    simp only [Option.some.injEq, Prod.mk.injEq] at H
    obtain ⟨rfl, rfl⟩ := H
    go_wp2
    repeat (go_quiet (fail); try go_wp2)
    go_ret2
    exact ⟨by first | rfl | (simp [errW_none, errW_some] <;> rfl) | (simp [*, errW_none, errW_some] <;> rfl), bl_ HB⟩
   ·replace c17 := Bool.eq_false_iff.mpr c17
    subst c17
    have H1 : (if a0_1 > 0 then (if a0_2 > 0 then (policy_Verdict.j1 kj2 (a1_1 == 0) (a1_1 == 0) a0_0 a0_1 a0_2 a0_3 a0_4 a0_5 a1_0 a1_1) else (policy_Verdict.j1 kj2 (a1_1 == 0) false a0_0 a0_1 a0_2 a0_3 a0_4 a0_5 a1_0 a1_1)) else (if a0_2 > 0 then (policy_Verdict.j1 kj2 false (a1_1 == 0) a0_0 a0_1 a0_2 a0_3 a0_4 a0_5 a1_0 a1_1) else (policy_Verdict.j1 kj2 false false a0_0 a0_1 a0_2 a0_3 a0_4 a0_5 a1_0 a1_1))) = some (r1, r2) := by rw [if_neg (show ¬ (false = true) by decide)] at H; exact H
    clear H
    have H := H1
    clear H1
    have HC18 := Aside0.mk H
    clear H
    go_upto_region 3 with (fail)
    repeat (go_quiet (fail); go_upto_region 3 with (fail))
    go_cut [6, 7] (fun v6 v7 wc => ∃ (kq : Nat) (x6_17 : Bool) (x7_17 : Bool), v6 = .bool x6_17 ∧ v7 = .bool x7_17 ∧ Aside0 (policy_Verdict.j1 kq x6_17 x7_17 a0_0 a0_1 a0_2 a0_3 a0_4 a0_5 a1_0 a1_1 = some (r1, r2)) ∧ Aside0 (kq ≤ kj2) ∧ Aside0 (wc.heap[gb142]? = some (.cells #[.int .i64 a0_0, .int .i64 a0_1, .int .i64 a0_2, .int .i64 a0_3, .int .i64 a0_4, .int .i64 a0_5] 30 (0, 0))) ∧ Aside0 (wc.heap[gb143]? = some (.cells #[.int .i64 a1_0, .int .i64 a1_1] 23 (0, 0))) ∧ Aside0 (Below w.heap.size w wc))
    case first =>
     have H := HC18.out
     clear HC18
     by_cases c19 : a0_1 > 0
     ·rw [if_pos c19] at H
      have c19b0 : decide (0 < a0_1) = true := decide_eq_true c19
      clear c19
      (first | rw [c19b0] | (simp only [i64_w, i32_w]; rw [c19b0]) | skip)
      by_cases c20 : a0_2 > 0
      ·rw [if_pos c20] at H
       have c20b0 : decide (0 < a0_2) = true := decide_eq_true c20
       clear c20
       have H' := Aside0.mk H
       clear H
       have hnb21 := NB142_143.out
       have hnc21 := NB143_142.out
       have hcz22_0 : wc.cell? ⟨gb142, 0, none⟩ = some (.int .i64 a0_0) := (blk_cell BK142.out 0).trans rfl
       have hcz22_1 : wc.cell? ⟨gb142, 1, none⟩ = some (.int .i64 a0_1) := (blk_cell BK142.out 1).trans rfl
       have hcz22_2 : wc.cell? ⟨gb142, 2, none⟩ = some (.int .i64 a0_2) := (blk_cell BK142.out 2).trans rfl
       have hcz22_3 : wc.cell? ⟨gb142, 3, none⟩ = some (.int .i64 a0_3) := (blk_cell BK142.out 3).trans rfl
       have hcz22_4 : wc.cell? ⟨gb142, 4, none⟩ = some (.int .i64 a0_4) := (blk_cell BK142.out 4).trans rfl
       have hcz22_5 : wc.cell? ⟨gb142, 5, none⟩ = some (.int .i64 a0_5) := (blk_cell BK142.out 5).trans rfl
       have hfz22_0 := blk_frozen BK142.out 0
       have hfz22_1 := blk_frozen BK142.out 1
       have hfz22_2 := blk_frozen BK142.out 2
       have hfz22_3 := blk_frozen BK142.out 3
       have hfz22_4 := blk_frozen BK142.out 4
       have hfz22_5 := blk_frozen BK142.out 5
       have hcz23_0 : wc.cell? ⟨gb143, 0, none⟩ = some (.int .i64 a1_0) := (blk_cell BK143.out 0).trans rfl
       have hcz23_1 : wc.cell? ⟨gb143, 1, none⟩ = some (.int .i64 a1_1) := (blk_cell BK143.out 1).trans rfl
       have hfz23_0 := blk_frozen BK143.out 0
       have hfz23_1 := blk_frozen BK143.out 1
       go_wp2
       repeat (go_quiet (fail); try go_wp2)
       go_meet
       case rel => exact ⟨_, ((a1_1 == 0)), ((a1_1 == 0)), (by first | rfl | (simp; done) | (simp [*]; done)), (by first | rfl | (simp; done) | (simp [*]; done)), H', ⟨by have := HJ2.out; first | omega | exact Nat.le_refl _⟩, ⟨by (with_reducible repeat (first | apply bN | apply bD | apply bA)); exact BK142.out⟩, ⟨by (with_reducible repeat (first | apply bN | apply bD | apply bA)); exact BK143.out⟩, ⟨bl_ HB⟩⟩
      ·rw [if_neg c20] at H
       have c20b0 : decide (0 < a0_2) = false := decide_eq_false c20
       clear c20
       have H' := Aside0.mk H
       clear H
       have hnb24 := NB142_143.out
       have hnc24 := NB143_142.out
       have hcz25_0 : wc.cell? ⟨gb142, 0, none⟩ = some (.int .i64 a0_0) := (blk_cell BK142.out 0).trans rfl
       have hcz25_1 : wc.cell? ⟨gb142, 1, none⟩ = some (.int .i64 a0_1) := (blk_cell BK142.out 1).trans rfl
       have hcz25_2 : wc.cell? ⟨gb142, 2, none⟩ = some (.int .i64 a0_2) := (blk_cell BK142.out 2).trans rfl
       have hcz25_3 : wc.cell? ⟨gb142, 3, none⟩ = some (.int .i64 a0_3) := (blk_cell BK142.out 3).trans rfl
       have hcz25_4 : wc.cell? ⟨gb142, 4, none⟩ = some (.int .i64 a0_4) := (blk_cell BK142.out 4).trans rfl
       have hcz25_5 : wc.cell? ⟨gb142, 5, none⟩ = some (.int .i64 a0_5) := (blk_cell BK142.out 5).trans rfl
       have hfz25_0 := blk_frozen BK142.out 0
       have hfz25_1 := blk_frozen BK142.out 1
       have hfz25_2 := blk_frozen BK142.out 2
       have hfz25_3 := blk_frozen BK142.out 3
       have hfz25_4 := blk_frozen BK142.out 4
       have hfz25_5 := blk_frozen BK142.out 5
       have hcz26_0 : wc.cell? ⟨gb143, 0, none⟩ = some (.int .i64 a1_0) := (blk_cell BK143.out 0).trans rfl
       have hcz26_1 : wc.cell? ⟨gb143, 1, none⟩ = some (.int .i64 a1_1) := (blk_cell BK143.out 1).trans rfl
       have hfz26_0 := blk_frozen BK143.out 0
       have hfz26_1 := blk_frozen BK143.out 1
       go_wp2
       repeat (go_quiet (fail); try go_wp2)
       go_meet
       case rel => exact ⟨_, ((a1_1 == 0)), (false), (by first | rfl | (simp; done) | (simp [*]; done)), (by first | rfl | (simp; done) | (simp [*]; done)), H', ⟨by have := HJ2.out; first | omega | exact Nat.le_refl _⟩, ⟨by (with_reducible repeat (first | apply bN | apply bD | apply bA)); exact BK142.out⟩, ⟨by (with_reducible repeat (first | apply bN | apply bD | apply bA)); exact BK143.out⟩, ⟨bl_ HB⟩⟩
     ·rw [if_neg c19] at H
      have c19b0 : decide (0 < a0_1) = false := decide_eq_false c19
      clear c19
      (first | rw [c19b0] | (simp only [i64_w, i32_w]; rw [c19b0]) | skip)
      by_cases c27 : a0_2 > 0
      ·rw [if_pos c27] at H
       have c27b0 : decide (0 < a0_2) = true := decide_eq_true c27
       clear c27
       have H' := Aside0.mk H
       clear H
       have hnb28 := NB142_143.out
       have hnc28 := NB143_142.out
       have hcz29_0 : wc.cell? ⟨gb142, 0, none⟩ = some (.int .i64 a0_0) := (blk_cell BK142.out 0).trans rfl
       have hcz29_1 : wc.cell? ⟨gb142, 1, none⟩ = some (.int .i64 a0_1) := (blk_cell BK142.out 1).trans rfl
       have hcz29_2 : wc.cell? ⟨gb142, 2, none⟩ = some (.int .i64 a0_2) := (blk_cell BK142.out 2).trans rfl
       have hcz29_3 : wc.cell? ⟨gb142, 3, none⟩ = some (.int .i64 a0_3) := (blk_cell BK142.out 3).trans rfl
       have hcz29_4 : wc.cell? ⟨gb142, 4, none⟩ = some (.int .i64 a0_4) := (blk_cell BK142.out 4).trans rfl
       have hcz29_5 : wc.cell? ⟨gb142, 5, none⟩ = some (.int .i64 a0_5) := (blk_cell BK142.out 5).trans rfl
       have hfz29_0 := blk_frozen BK142.out 0
       have hfz29_1 := blk_frozen BK142.out 1
       have hfz29_2 := blk_frozen BK142.out 2
       have hfz29_3 := blk_frozen BK142.out 3
       have hfz29_4 := blk_frozen BK142.out 4
       have hfz29_5 := blk_frozen BK142.out 5
       have hcz30_0 : wc.cell? ⟨gb143, 0, none⟩ = some (.int .i64 a1_0) := (blk_cell BK143.out 0).trans rfl
       have hcz30_1 : wc.cell? ⟨gb143, 1, none⟩ = some (.int .i64 a1_1) := (blk_cell BK143.out 1).trans rfl
       have hfz30_0 := blk_frozen BK143.out 0
       have hfz30_1 := blk_frozen BK143.out 1
       go_wp2
       repeat (go_quiet (fail); try go_wp2)
       go_meet
       case rel => exact ⟨_, (false), ((a1_1 == 0)), (by first | rfl | (simp; done) | (simp [*]; done)), (by first | rfl | (simp; done) | (simp [*]; done)), H', ⟨by have := HJ2.out; first | omega | exact Nat.le_refl _⟩, ⟨by (with_reducible repeat (first | apply bN | apply bD | apply bA)); exact BK142.out⟩, ⟨by (with_reducible repeat (first | apply bN | apply bD | apply bA)); exact BK143.out⟩, ⟨bl_ HB⟩⟩
      ·rw [if_neg c27] at H
       have c27b0 : decide (0 < a0_2) = false := decide_eq_false c27
       clear c27
       have H' := Aside0.mk H
       clear H
       have hnb31 := NB142_143.out
       have hnc31 := NB143_142.out
       have hcz32_0 : wc.cell? ⟨gb142, 0, none⟩ = some (.int .i64 a0_0) := (blk_cell BK142.out 0).trans rfl
       have hcz32_1 : wc.cell? ⟨gb142, 1, none⟩ = some (.int .i64 a0_1) := (blk_cell BK142.out 1).trans rfl
       have hcz32_2 : wc.cell? ⟨gb142, 2, none⟩ = some (.int .i64 a0_2) := (blk_cell BK142.out 2).trans rfl
       have hcz32_3 : wc.cell? ⟨gb142, 3, none⟩ = some (.int .i64 a0_3) := (blk_cell BK142.out 3).trans rfl
       have hcz32_4 : wc.cell? ⟨gb142, 4, none⟩ = some (.int .i64 a0_4) := (blk_cell BK142.out 4).trans rfl
       have hcz32_5 : wc.cell? ⟨gb142, 5, none⟩ = some (.int .i64 a0_5) := (blk_cell BK142.out 5).trans rfl
       have hfz32_0 := blk_frozen BK142.out 0
       have hfz32_1 := blk_frozen BK142.out 1
       have hfz32_2 := blk_frozen BK142.out 2
       have hfz32_3 := blk_frozen BK142.out 3
       have hfz32_4 := blk_frozen BK142.out 4
       have hfz32_5 := blk_frozen BK142.out 5
       go_wp2
       repeat (go_quiet (fail); try go_wp2)
       go_meet
       case rel => exact ⟨_, (false), (false), (by first | rfl | (simp; done) | (simp [*]; done)), (by first | rfl | (simp; done) | (simp [*]; done)), H', ⟨by have := HJ2.out; first | omega | exact Nat.le_refl _⟩, ⟨by (with_reducible repeat (first | apply bN | apply bD | apply bA)); exact BK142.out⟩, ⟨by (with_reducible repeat (first | apply bN | apply bD | apply bA)); exact BK143.out⟩, ⟨bl_ HB⟩⟩
    case rest =>
     clear HC18
     try clear c1
     try clear c2
     try clear p2
     try clear c3
     try clear c7
     try clear c9
     try clear c14
     try clear c17
     try clear c18
     try clear c19
     try clear c19b0
     try clear c20
     try clear c20b0
     try clear c21
     try clear c24
     try clear c27
     try clear c27b0
     try clear c28
     try clear c31
     try clear hcz10_0
     try clear hcz10_1
     try clear hcz10_2
     try clear hcz10_3
     try clear hcz10_4
     try clear hcz10_5
     try clear hcz12_0
     try clear hcz12_1
     try clear hcz15_0
     try clear hcz15_1
     try clear hcz15_2
     try clear hcz15_3
     try clear hcz15_4
     try clear hcz15_5
     try clear hcz22_0
     try clear hcz22_1
     try clear hcz22_2
     try clear hcz22_3
     try clear hcz22_4
     try clear hcz22_5
     try clear hcz23_0
     try clear hcz23_1
     try clear hcz25_0
     try clear hcz25_1
     try clear hcz25_2
     try clear hcz25_3
     try clear hcz25_4
     try clear hcz25_5
     try clear hcz26_0
     try clear hcz26_1
     try clear hcz29_0
     try clear hcz29_1
     try clear hcz29_2
     try clear hcz29_3
     try clear hcz29_4
     try clear hcz29_5
     try clear hcz30_0
     try clear hcz30_1
     try clear hcz32_0
     try clear hcz32_1
     try clear hcz32_2
     try clear hcz32_3
     try clear hcz32_4
     try clear hcz32_5
     try clear hfz10_0
     try clear hfz10_1
     try clear hfz10_2
     try clear hfz10_3
     try clear hfz10_4
     try clear hfz10_5
     try clear hfz12_0
     try clear hfz12_1
     try clear hfz15_0
     try clear hfz15_1
     try clear hfz15_2
     try clear hfz15_3
     try clear hfz15_4
     try clear hfz15_5
     try clear hfz22_0
     try clear hfz22_1
     try clear hfz22_2
     try clear hfz22_3
     try clear hfz22_4
     try clear hfz22_5
     try clear hfz23_0
     try clear hfz23_1
     try clear hfz25_0
     try clear hfz25_1
     try clear hfz25_2
     try clear hfz25_3
     try clear hfz25_4
     try clear hfz25_5
     try clear hfz26_0
     try clear hfz26_1
     try clear hfz29_0
     try clear hfz29_1
     try clear hfz29_2
     try clear hfz29_3
     try clear hfz29_4
     try clear hfz29_5
     try clear hfz30_0
     try clear hfz30_1
     try clear hfz32_0
     try clear hfz32_1
     try clear hfz32_2
     try clear hfz32_3
     try clear hfz32_4
     try clear hfz32_5
     try clear p2
     obtain ⟨kq, x6_17, x7_17, rfl, rfl, HA, HJ17, BK142, BK143, HB⟩ := hcut
     cases kq with
     | zero => exact absurd HA.out (by simp [policy_Verdict.j1])
     | succ kj17 =>
      have H := HA.out
      clear HA
      simp only [policy_Verdict.j1] at H
      have HC33 := Aside0.mk H
      clear H
      go_upto_region 4 with (fail)
      repeat (go_quiet (fail); go_upto_region 4 with (fail))
      go_cut [32] (fun v32 wc => ∃ (kq : Nat) (x32_32 : Bool), v32 = .bool x32_32 ∧ Aside0 (policy_Verdict.j2 kq x6_17 x7_17 x32_32 = some (r1, r2)) ∧ Aside0 (kq ≤ kj17) ∧ Aside0 (wc.heap[gb142]? = some (.cells #[.int .i64 a0_0, .int .i64 a0_1, .int .i64 a0_2, .int .i64 a0_3, .int .i64 a0_4, .int .i64 a0_5] 30 (0, 0))) ∧ Aside0 (wc.heap[gb143]? = some (.cells #[.int .i64 a1_0, .int .i64 a1_1] 23 (0, 0))) ∧ Aside0 (Below w.heap.size w wc))
      case first =>
       have H := HC33.out
       clear HC33
       by_cases c34 : a0_0 > 0
       ·rw [if_pos c34] at H
        have c34b0 : decide (0 < a0_0) = true := decide_eq_true c34
        clear c34
        (first | rw [c34b0] | (simp only [i64_w, i32_w]; rw [c34b0]) | skip)
        have H' := Aside0.mk H
        clear H
        have hnb35 := NB142_143.out
        have hnc35 := NB143_142.out
        have hcz36_0 : wc.cell? ⟨gb142, 0, none⟩ = some (.int .i64 a0_0) := (blk_cell BK142.out 0).trans rfl
        have hcz36_1 : wc.cell? ⟨gb142, 1, none⟩ = some (.int .i64 a0_1) := (blk_cell BK142.out 1).trans rfl
        have hcz36_2 : wc.cell? ⟨gb142, 2, none⟩ = some (.int .i64 a0_2) := (blk_cell BK142.out 2).trans rfl
        have hcz36_3 : wc.cell? ⟨gb142, 3, none⟩ = some (.int .i64 a0_3) := (blk_cell BK142.out 3).trans rfl
        have hcz36_4 : wc.cell? ⟨gb142, 4, none⟩ = some (.int .i64 a0_4) := (blk_cell BK142.out 4).trans rfl
        have hcz36_5 : wc.cell? ⟨gb142, 5, none⟩ = some (.int .i64 a0_5) := (blk_cell BK142.out 5).trans rfl
        have hfz36_0 := blk_frozen BK142.out 0
        have hfz36_1 := blk_frozen BK142.out 1
        have hfz36_2 := blk_frozen BK142.out 2
        have hfz36_3 := blk_frozen BK142.out 3
        have hfz36_4 := blk_frozen BK142.out 4
        have hfz36_5 := blk_frozen BK142.out 5
        have hcz37_0 : wc.cell? ⟨gb143, 0, none⟩ = some (.int .i64 a1_0) := (blk_cell BK143.out 0).trans rfl
        have hcz37_1 : wc.cell? ⟨gb143, 1, none⟩ = some (.int .i64 a1_1) := (blk_cell BK143.out 1).trans rfl
        have hfz37_0 := blk_frozen BK143.out 0
        have hfz37_1 := blk_frozen BK143.out 1
        go_wp2
        repeat (go_quiet (fail); try go_wp2)
        go_meet
        case rel => exact ⟨_, ((a1_0 == 0)), (by first | rfl | (simp; done) | (simp [*]; done)), H', ⟨by have := HJ2.out; have := HJ17.out; first | omega | exact Nat.le_refl _⟩, ⟨by (with_reducible repeat (first | apply bN | apply bD | apply bA)); exact BK142.out⟩, ⟨by (with_reducible repeat (first | apply bN | apply bD | apply bA)); exact BK143.out⟩, ⟨bl_ HB⟩⟩
       ·rw [if_neg c34] at H
        have c34b0 : decide (0 < a0_0) = false := decide_eq_false c34
        clear c34
        (first | rw [c34b0] | (simp only [i64_w, i32_w]; rw [c34b0]) | skip)
        have H' := Aside0.mk H
        clear H
        have hnb38 := NB142_143.out
        have hnc38 := NB143_142.out
        have hcz39_0 : wc.cell? ⟨gb142, 0, none⟩ = some (.int .i64 a0_0) := (blk_cell BK142.out 0).trans rfl
        have hcz39_1 : wc.cell? ⟨gb142, 1, none⟩ = some (.int .i64 a0_1) := (blk_cell BK142.out 1).trans rfl
        have hcz39_2 : wc.cell? ⟨gb142, 2, none⟩ = some (.int .i64 a0_2) := (blk_cell BK142.out 2).trans rfl
        have hcz39_3 : wc.cell? ⟨gb142, 3, none⟩ = some (.int .i64 a0_3) := (blk_cell BK142.out 3).trans rfl
        have hcz39_4 : wc.cell? ⟨gb142, 4, none⟩ = some (.int .i64 a0_4) := (blk_cell BK142.out 4).trans rfl
        have hcz39_5 : wc.cell? ⟨gb142, 5, none⟩ = some (.int .i64 a0_5) := (blk_cell BK142.out 5).trans rfl
        have hfz39_0 := blk_frozen BK142.out 0
        have hfz39_1 := blk_frozen BK142.out 1
        have hfz39_2 := blk_frozen BK142.out 2
        have hfz39_3 := blk_frozen BK142.out 3
        have hfz39_4 := blk_frozen BK142.out 4
        have hfz39_5 := blk_frozen BK142.out 5
        go_wp2
        repeat (go_quiet (fail); try go_wp2)
        go_meet
        case rel => exact ⟨_, (false), (by first | rfl | (simp; done) | (simp [*]; done)), H', ⟨by have := HJ2.out; have := HJ17.out; first | omega | exact Nat.le_refl _⟩, ⟨by (with_reducible repeat (first | apply bN | apply bD | apply bA)); exact BK142.out⟩, ⟨by (with_reducible repeat (first | apply bN | apply bD | apply bA)); exact BK143.out⟩, ⟨bl_ HB⟩⟩
      case rest =>
       clear HC33
       try clear c1
       try clear c2
       try clear p2
       try clear c3
       try clear c7
       try clear c9
       try clear c14
       try clear c17
       try clear c18
       try clear c19
       try clear c19b0
       try clear c20
       try clear c20b0
       try clear c21
       try clear c24
       try clear c27
       try clear c27b0
       try clear c28
       try clear c31
       try clear c34
       try clear c34b0
       try clear c35
       try clear c38
       try clear hcz10_0
       try clear hcz10_1
       try clear hcz10_2
       try clear hcz10_3
       try clear hcz10_4
       try clear hcz10_5
       try clear hcz12_0
       try clear hcz12_1
       try clear hcz15_0
       try clear hcz15_1
       try clear hcz15_2
       try clear hcz15_3
       try clear hcz15_4
       try clear hcz15_5
       try clear hcz22_0
       try clear hcz22_1
       try clear hcz22_2
       try clear hcz22_3
       try clear hcz22_4
       try clear hcz22_5
       try clear hcz23_0
       try clear hcz23_1
       try clear hcz25_0
       try clear hcz25_1
       try clear hcz25_2
       try clear hcz25_3
       try clear hcz25_4
       try clear hcz25_5
       try clear hcz26_0
       try clear hcz26_1
       try clear hcz29_0
       try clear hcz29_1
       try clear hcz29_2
       try clear hcz29_3
       try clear hcz29_4
       try clear hcz29_5
       try clear hcz30_0
       try clear hcz30_1
       try clear hcz32_0
       try clear hcz32_1
       try clear hcz32_2
       try clear hcz32_3
       try clear hcz32_4
       try clear hcz32_5
       try clear hcz36_0
       try clear hcz36_1
       try clear hcz36_2
       try clear hcz36_3
       try clear hcz36_4
       try clear hcz36_5
       try clear hcz37_0
       try clear hcz37_1
       try clear hcz39_0
       try clear hcz39_1
       try clear hcz39_2
       try clear hcz39_3
       try clear hcz39_4
       try clear hcz39_5
       try clear hfz10_0
       try clear hfz10_1
       try clear hfz10_2
       try clear hfz10_3
       try clear hfz10_4
       try clear hfz10_5
       try clear hfz12_0
       try clear hfz12_1
       try clear hfz15_0
       try clear hfz15_1
       try clear hfz15_2
       try clear hfz15_3
       try clear hfz15_4
       try clear hfz15_5
       try clear hfz22_0
       try clear hfz22_1
       try clear hfz22_2
       try clear hfz22_3
       try clear hfz22_4
       try clear hfz22_5
       try clear hfz23_0
       try clear hfz23_1
       try clear hfz25_0
       try clear hfz25_1
       try clear hfz25_2
       try clear hfz25_3
       try clear hfz25_4
       try clear hfz25_5
       try clear hfz26_0
       try clear hfz26_1
       try clear hfz29_0
       try clear hfz29_1
       try clear hfz29_2
       try clear hfz29_3
       try clear hfz29_4
       try clear hfz29_5
       try clear hfz30_0
       try clear hfz30_1
       try clear hfz32_0
       try clear hfz32_1
       try clear hfz32_2
       try clear hfz32_3
       try clear hfz32_4
       try clear hfz32_5
       try clear hfz36_0
       try clear hfz36_1
       try clear hfz36_2
       try clear hfz36_3
       try clear hfz36_4
       try clear hfz36_5
       try clear hfz37_0
       try clear hfz37_1
       try clear hfz39_0
       try clear hfz39_1
       try clear hfz39_2
       try clear hfz39_3
       try clear hfz39_4
       try clear hfz39_5
       try clear p2
       obtain ⟨kq, x32_32, rfl, HA, HJ32, BK142, BK143, HB⟩ := hcut
       cases kq with
       | zero => exact absurd HA.out (by simp [policy_Verdict.j2])
       | succ kj32 =>
        have H := HA.out
        clear HA
        simp only [policy_Verdict.j2] at H
        have HC40 := Aside0.mk H
        clear H
        go_upto_if 32 with (fail)
        repeat (go_quiet (fail); go_upto_if 32 with (fail))
        go_cut [32] (fun v32 wc => ∃ (kq : Nat) (x32_39 : Bool), v32 = .bool x32_39 ∧ Aside0 (policy_Verdict.j3 kq x6_17 x7_17 x32_39 = some (r1, r2)) ∧ Aside0 (kq ≤ kj32) ∧ Aside0 (wc.heap[gb142]? = some (.cells #[.int .i64 a0_0, .int .i64 a0_1, .int .i64 a0_2, .int .i64 a0_3, .int .i64 a0_4, .int .i64 a0_5] 30 (0, 0))) ∧ Aside0 (wc.heap[gb143]? = some (.cells #[.int .i64 a1_0, .int .i64 a1_1] 23 (0, 0))) ∧ Aside0 (Below w.heap.size w wc))
        case first =>
         have H := HC40.out
         clear HC40
         by_cases c41 : x32_32 = true
         ·subst c41
          have H1 : (policy_Verdict.j3 kj32 x6_17 x7_17 true) = some (r1, r2) := by rw [if_pos rfl] at H; exact H
          clear H
          have H := H1
          clear H1
          have H' := Aside0.mk H
          clear H
          go_wp2
          repeat (go_quiet (fail); try go_wp2)
          go_meet
          case rel => exact ⟨_, (true), (by first | rfl | (simp; done) | (simp [*]; done)), H', ⟨by have := HJ2.out; have := HJ17.out; have := HJ32.out; first | omega | exact Nat.le_refl _⟩, ⟨by (with_reducible repeat (first | apply bN | apply bD | apply bA)); exact BK142.out⟩, ⟨by (with_reducible repeat (first | apply bN | apply bD | apply bA)); exact BK143.out⟩, ⟨bl_ HB⟩⟩
         ·replace c41 := Bool.eq_false_iff.mpr c41
          subst c41
          have H1 : (if x6_17 = true then (policy_Verdict.j3 kj32 x6_17 x7_17 x7_17) else (policy_Verdict.j3 kj32 x6_17 x7_17 false)) = some (r1, r2) := by rw [if_neg (show ¬ (false = true) by decide)] at H; exact H
          clear H
          have H := H1
          clear H1
          by_cases c42 : x6_17 = true
          ·subst c42
           have H1 : (policy_Verdict.j3 kj32 true x7_17 x7_17) = some (r1, r2) := by rw [if_pos rfl] at H; exact H
           clear H
           have H := H1
           clear H1
           have H' := Aside0.mk H
           clear H
           go_wp2
           repeat (go_quiet (fail); try go_wp2)
           go_meet
           case rel => exact ⟨_, (x7_17), (by first | rfl | (simp; done) | (simp [*]; done)), H', ⟨by have := HJ2.out; have := HJ17.out; have := HJ32.out; first | omega | exact Nat.le_refl _⟩, ⟨by (with_reducible repeat (first | apply bN | apply bD | apply bA)); exact BK142.out⟩, ⟨by (with_reducible repeat (first | apply bN | apply bD | apply bA)); exact BK143.out⟩, ⟨bl_ HB⟩⟩
          ·replace c42 := Bool.eq_false_iff.mpr c42
           subst c42
           have H1 : (policy_Verdict.j3 kj32 false x7_17 false) = some (r1, r2) := by rw [if_neg (show ¬ (false = true) by decide)] at H; exact H
           clear H
           have H := H1
           clear H1
           have H' := Aside0.mk H
           clear H
           go_wp2
           repeat (go_quiet (fail); try go_wp2)
           go_meet
           case rel => exact ⟨_, (false), (by first | rfl | (simp; done) | (simp [*]; done)), H', ⟨by have := HJ2.out; have := HJ17.out; have := HJ32.out; first | omega | exact Nat.le_refl _⟩, ⟨by (with_reducible repeat (first | apply bN | apply bD | apply bA)); exact BK142.out⟩, ⟨by (with_reducible repeat (first | apply bN | apply bD | apply bA)); exact BK143.out⟩, ⟨bl_ HB⟩⟩
        case rest =>
         clear HC40
         try clear c1
         try clear c2
         try clear p2
         try clear c3
         try clear c4
         try clear c7
         try clear c9
         try clear c14
         try clear c17
         try clear c18
         try clear c19
         try clear c19b0
         try clear c20
         try clear c20b0
         try clear c21
         try clear c24
         try clear c27
         try clear c27b0
         try clear c28
         try clear c31
         try clear c34
         try clear c34b0
         try clear c35
         try clear c38
         try clear c41
         try clear c42
         try clear hcz10_0
         try clear hcz10_1
         try clear hcz10_2
         try clear hcz10_3
         try clear hcz10_4
         try clear hcz10_5
         try clear hcz12_0
         try clear hcz12_1
         try clear hcz15_0
         try clear hcz15_1
         try clear hcz15_2
         try clear hcz15_3
         try clear hcz15_4
         try clear hcz15_5
         try clear hcz22_0
         try clear hcz22_1
         try clear hcz22_2
         try clear hcz22_3
         try clear hcz22_4
         try clear hcz22_5
         try clear hcz23_0
         try clear hcz23_1
         try clear hcz25_0
         try clear hcz25_1
         try clear hcz25_2
         try clear hcz25_3
         try clear hcz25_4
         try clear hcz25_5
         try clear hcz26_0
         try clear hcz26_1
         try clear hcz29_0
         try clear hcz29_1
         try clear hcz29_2
         try clear hcz29_3
         try clear hcz29_4
         try clear hcz29_5
         try clear hcz30_0
         try clear hcz30_1
         try clear hcz32_0
         try clear hcz32_1
         try clear hcz32_2
         try clear hcz32_3
         try clear hcz32_4
         try clear hcz32_5
         try clear hcz36_0
         try clear hcz36_1
         try clear hcz36_2
         try clear hcz36_3
         try clear hcz36_4
         try clear hcz36_5
         try clear hcz37_0
         try clear hcz37_1
         try clear hcz39_0
         try clear hcz39_1
         try clear hcz39_2
         try clear hcz39_3
         try clear hcz39_4
         try clear hcz39_5
         try clear hfz10_0
         try clear hfz10_1
         try clear hfz10_2
         try clear hfz10_3
         try clear hfz10_4
         try clear hfz10_5
         try clear hfz12_0
         try clear hfz12_1
         try clear hfz15_0
         try clear hfz15_1
         try clear hfz15_2
         try clear hfz15_3
         try clear hfz15_4
         try clear hfz15_5
         try clear hfz22_0
         try clear hfz22_1
         try clear hfz22_2
         try clear hfz22_3
         try clear hfz22_4
         try clear hfz22_5
         try clear hfz23_0
         try clear hfz23_1
         try clear hfz25_0
         try clear hfz25_1
         try clear hfz25_2
         try clear hfz25_3
         try clear hfz25_4
         try clear hfz25_5
         try clear hfz26_0
         try clear hfz26_1
         try clear hfz29_0
         try clear hfz29_1
         try clear hfz29_2
         try clear hfz29_3
         try clear hfz29_4
         try clear hfz29_5
         try clear hfz30_0
         try clear hfz30_1
         try clear hfz32_0
         try clear hfz32_1
         try clear hfz32_2
         try clear hfz32_3
         try clear hfz32_4
         try clear hfz32_5
         try clear hfz36_0
         try clear hfz36_1
         try clear hfz36_2
         try clear hfz36_3
         try clear hfz36_4
         try clear hfz36_5
         try clear hfz37_0
         try clear hfz37_1
         try clear hfz39_0
         try clear hfz39_1
         try clear hfz39_2
         try clear hfz39_3
         try clear hfz39_4
         try clear hfz39_5
         try clear p2
         obtain ⟨kq, x32_39, rfl, HA, HJ39, BK142, BK143, HB⟩ := hcut
         cases kq with
         | zero => exact absurd HA.out (by simp [policy_Verdict.j3])
         | succ kj39 =>
          have H := HA.out
          clear HA
          simp only [policy_Verdict.j3] at H
          by_cases c43 : x32_39 = true
          ·subst c43
           have H1 : ((bits_NaN.f).bind fun t146 => (some (t146, true))) = some (r1, r2) := by rw [if_pos rfl] at H; exact H
           clear H
           have H := H1
           clear H1
           obtain ⟨t146, A44, H⟩ := ob_ H
           try dsimp only at H
           simp only [Option.some.injEq, Prod.mk.injEq] at H
           obtain ⟨rfl, rfl⟩ := H
           go_wp2_with (first | (go_at_call 34; (with_reducible refine (bits_NaN.calls  t146 _ A44.out).mono ?_); rintro e w' ⟨rfl, ⟨nd, rfl⟩⟩; (try first | exact ⟨rfl, _, World.drewN_drewN _ _ _⟩ | exact ⟨rfl, _, Eq.trans (World.drewN_drewN _ _ _) (congrArg (World.drewN _) (Nat.add_assoc _ _ _))⟩)))
           repeat (go_quiet (first | (go_at_call 34; (with_reducible refine (bits_NaN.calls  t146 _ A44.out).mono ?_); rintro e w' ⟨rfl, ⟨nd, rfl⟩⟩; (try first | exact ⟨rfl, _, World.drewN_drewN _ _ _⟩ | exact ⟨rfl, _, Eq.trans (World.drewN_drewN _ _ _) (congrArg (World.drewN _) (Nat.add_assoc _ _ _))⟩))); try go_wp2_with (first | (go_at_call 34; (with_reducible refine (bits_NaN.calls  t146 _ A44.out).mono ?_); rintro e w' ⟨rfl, ⟨nd, rfl⟩⟩; (try first | exact ⟨rfl, _, World.drewN_drewN _ _ _⟩ | exact ⟨rfl, _, Eq.trans (World.drewN_drewN _ _ _) (congrArg (World.drewN _) (Nat.add_assoc _ _ _))⟩))))
           go_ret2
           exact ⟨by first | rfl | (simp [errW_none, errW_some] <;> rfl) | (simp [*, errW_none, errW_some] <;> rfl), bl_ HB⟩
          ·replace c43 := Bool.eq_false_iff.mpr c43
           subst c43
           have H1 : (if x6_17 = true then ((math_Inf.f 1).bind fun t147 => (some (t147, true))) else (if x7_17 = true then ((math_Inf.f (-1)).bind fun t148 => (some (t148, true))) else (some (0, false)))) = some (r1, r2) := by rw [if_neg (show ¬ (false = true) by decide)] at H; exact H
           clear H
           have H := H1
           clear H1
           by_cases c45 : x6_17 = true
           ·subst c45
            have H1 : ((math_Inf.f 1).bind fun t147 => (some (t147, true))) = some (r1, r2) := by rw [if_pos rfl] at H; exact H
            clear H
            have H := H1
            clear H1
            obtain ⟨t147, A46, H⟩ := ob_ H
            try dsimp only at H
            simp only [Option.some.injEq, Prod.mk.injEq] at H
            obtain ⟨rfl, rfl⟩ := H
            go_wp2_with (first | (go_at_call 35; (with_reducible refine (math_Inf.calls 1 t147 _ A46.out).mono ?_); rintro e w' ⟨rfl, ⟨nd, rfl⟩⟩; (try first | exact ⟨rfl, _, World.drewN_drewN _ _ _⟩ | exact ⟨rfl, _, Eq.trans (World.drewN_drewN _ _ _) (congrArg (World.drewN _) (Nat.add_assoc _ _ _))⟩)))
            repeat (go_quiet (first | (go_at_call 35; (with_reducible refine (math_Inf.calls 1 t147 _ A46.out).mono ?_); rintro e w' ⟨rfl, ⟨nd, rfl⟩⟩; (try first | exact ⟨rfl, _, World.drewN_drewN _ _ _⟩ | exact ⟨rfl, _, Eq.trans (World.drewN_drewN _ _ _) (congrArg (World.drewN _) (Nat.add_assoc _ _ _))⟩))); try go_wp2_with (first | (go_at_call 35; (with_reducible refine (math_Inf.calls 1 t147 _ A46.out).mono ?_); rintro e w' ⟨rfl, ⟨nd, rfl⟩⟩; (try first | exact ⟨rfl, _, World.drewN_drewN _ _ _⟩ | exact ⟨rfl, _, Eq.trans (World.drewN_drewN _ _ _) (congrArg (World.drewN _) (Nat.add_assoc _ _ _))⟩))))
            go_ret2
            exact ⟨by first | rfl | (simp [errW_none, errW_some] <;> rfl) | (simp [*, errW_none, errW_some] <;> rfl), bl_ HB⟩
           ·replace c45 := Bool.eq_false_iff.mpr c45
            subst c45
            have H1 : (if x7_17 = true then ((math_Inf.f (-1)).bind fun t148 => (some (t148, true))) else (some (0, false))) = some (r1, r2) := by rw [if_neg (show ¬ (false = true) by decide)] at H; exact H
            clear H
            have H := H1
            clear H1
            by_cases c47 : x7_17 = true
            ·subst c47
             have H1 : ((math_Inf.f (-1)).bind fun t148 => (some (t148, true))) = some (r1, r2) := by rw [if_pos rfl] at H; exact H
             clear H
             have H := H1
             clear H1
             obtain ⟨t148, A48, H⟩ := ob_ H
             try dsimp only at H
             simp only [Option.some.injEq, Prod.mk.injEq] at H
             obtain ⟨rfl, rfl⟩ := H
             go_wp2_with (first | (go_at_call 35; (with_reducible refine (math_Inf.calls (-1) t148 _ A48.out).mono ?_); rintro e w' ⟨rfl, ⟨nd, rfl⟩⟩; (try first | exact ⟨rfl, _, World.drewN_drewN _ _ _⟩ | exact ⟨rfl, _, Eq.trans (World.drewN_drewN _ _ _) (congrArg (World.drewN _) (Nat.add_assoc _ _ _))⟩)))
             repeat (go_quiet (first | (go_at_call 35; (with_reducible refine (math_Inf.calls (-1) t148 _ A48.out).mono ?_); rintro e w' ⟨rfl, ⟨nd, rfl⟩⟩; (try first | exact ⟨rfl, _, World.drewN_drewN _ _ _⟩ | exact ⟨rfl, _, Eq.trans (World.drewN_drewN _ _ _) (congrArg (World.drewN _) (Nat.add_assoc _ _ _))⟩))); try go_wp2_with (first | (go_at_call 35; (with_reducible refine (math_Inf.calls (-1) t148 _ A48.out).mono ?_); rintro e w' ⟨rfl, ⟨nd, rfl⟩⟩; (try first | exact ⟨rfl, _, World.drewN_drewN _ _ _⟩ | exact ⟨rfl, _, Eq.trans (World.drewN_drewN _ _ _) (congrArg (World.drewN _) (Nat.add_assoc _ _ _))⟩))))
             go_ret2
             exact ⟨by first | rfl | (simp [errW_none, errW_some] <;> rfl) | (simp [*, errW_none, errW_some] <;> rfl), bl_ HB⟩
            ·replace c47 := Bool.eq_false_iff.mpr c47
             subst c47
             have H1 : (some (0, false)) = some (r1, r2) := by rw [if_neg (show ¬ (false = true) by decide)] at H; exact H
             clear H
             have H := H1
             clear H1
             simp only [Option.some.injEq, Prod.mk.injEq] at H
             obtain ⟨rfl, rfl⟩ := H
             go_wp2
             repeat (go_quiet (fail); try go_wp2)
             go_ret2
             exact ⟨by first | rfl | (simp [errW_none, errW_some] <;> rfl) | (simp [*, errW_none, errW_some] <;> rfl), bl_ HB⟩

end Go.Proofs.Ytkoonpjlpobmeaa.Pr
