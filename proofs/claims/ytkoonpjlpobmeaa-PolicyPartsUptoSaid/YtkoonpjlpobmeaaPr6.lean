-- short
-- written by this session's own program (wip/fprint.py), which widens the kit's print by floats
import Derived.Test.YtkoonpjlpobmeaaWShort
import Derived.Test.YtkoonpjlpobmeaaPr0
import Derived.Test.YtkoonpjlpobmeaaPr5
namespace Go.Proofs.Ytkoonpjlpobmeaa.Pr
open Go.RowKit Go.Proofs.YtkoonpjlpobmeaaW.PrintWords Go.Proofs.YtkoonpjlpobmeaaW.PrintLast Go.Proofs.YtkoonpjlpobmeaaW.PrintMore
attribute [local go_sem] max2_int min2_int max_two min_two max_three min_three max_four min_four   -- for this text's walks alone
set_option linter.unusedVariables false
set_option linter.unusedSimpArgs false

/-! ### policy_kind: function 28 -/
mutual
def policy_kind.j0 : Nat → Bool → Bool → Int → Int → Int → Option (Int)
 | 0, _, _, _, _, _ => none
 | k + 1, x10, x123000, x123001, x123002, x123003 => if x10 = true then (some 4) else (if x123001 = 3 then (some 3) else (if x123001 = 0 then (policy_kind.j1 k x123000 x123000 x123001 x123002 x123003) else (policy_kind.j1 k false x123000 x123001 x123002 x123003)))
def policy_kind.j1 : Nat → Bool → Bool → Int → Int → Int → Option (Int)
 | 0, _, _, _, _, _ => none
 | k + 1, x22, x123000, x123001, x123002, x123003 => if x22 = true then (some 1) else (if x123001 = 0 then (some 2) else (some 0))
end
def policy_kind.f (k : Nat) (a0 : Nat) : Option (Int) := (bits_Split.f k a0).bind fun bt118 => (if bt118.2.1 = 4 then (some 5) else (if bt118.2.1 = 3 then (policy_kind.j0 k bt118.1 bt118.1 bt118.2.1 bt118.2.2.1 bt118.2.2.2) else (policy_kind.j0 k false bt118.1 bt118.2.1 bt118.2.2.1 bt118.2.2.2)))
theorem policy_kind.mono_l : ∀ k, (∀ y0 y1 y2 y3 y4, LeO (policy_kind.j0 k y0 y1 y2 y3 y4) (policy_kind.j0 (k + 1) y0 y1 y2 y3 y4)) ∧ (∀ y0 y1 y2 y3 y4, LeO (policy_kind.j1 k y0 y1 y2 y3 y4) (policy_kind.j1 (k + 1) y0 y1 y2 y3 y4))
 | 0 => ⟨fun _ _ _ _ _ r h => by simp [policy_kind.j0] at h, fun _ _ _ _ _ r h => by simp [policy_kind.j1] at h⟩
 | k + 1 => by
  obtain ⟨ih0, ih1⟩ := policy_kind.mono_l k
  refine ⟨?_, ?_⟩
  ·intro y0 y1 y2 y3 y4
   unfold policy_kind.j0
   repeat' first
   | (with_reducible exact ih0 _ _ _ _ _)
   | (with_reducible exact ih1 _ _ _ _ _)
   | (with_reducible exact bits_Split.mono _ _)
   | (with_reducible exact LeO.refl _)
   | (with_reducible exact LeO.none _)
   | (with_reducible refine LeO.ite ?_ ?_)
   | (with_reducible refine LeO.bind ?_ (fun _ => ?_))
   | exact ih0 _ _ _ _ _
   | exact ih1 _ _ _ _ _
   | exact bits_Split.mono _ _
   | exact LeO.none _
   | refine LeO.ite ?_ ?_
   | refine LeO.bind ?_ (fun _ => ?_)
  ·intro y0 y1 y2 y3 y4
   unfold policy_kind.j1
   repeat' first
   | (with_reducible exact ih0 _ _ _ _ _)
   | (with_reducible exact ih1 _ _ _ _ _)
   | (with_reducible exact bits_Split.mono _ _)
   | (with_reducible exact LeO.refl _)
   | (with_reducible exact LeO.none _)
   | (with_reducible refine LeO.ite ?_ ?_)
   | (with_reducible refine LeO.bind ?_ (fun _ => ?_))
   | exact ih0 _ _ _ _ _
   | exact ih1 _ _ _ _ _
   | exact bits_Split.mono _ _
   | exact LeO.none _
   | refine LeO.ite ?_ ?_
   | refine LeO.bind ?_ (fun _ => ?_)
theorem policy_kind.mono : ∀ a0 k, LeO (policy_kind.f k a0) (policy_kind.f (k + 1) a0) := by
 intro a0 k
 obtain ⟨ih0, ih1⟩ := policy_kind.mono_l k
 unfold policy_kind.f
 repeat' first
   | (with_reducible exact ih0 _ _ _ _ _)
   | (with_reducible exact ih1 _ _ _ _ _)
   | (with_reducible exact bits_Split.mono _ _)
   | (with_reducible exact LeO.refl _)
   | (with_reducible exact LeO.none _)
   | (with_reducible refine LeO.ite ?_ ?_)
   | (with_reducible refine LeO.bind ?_ (fun _ => ?_))
   | exact ih0 _ _ _ _ _
   | exact ih1 _ _ _ _ _
   | exact bits_Split.mono _ _
   | exact LeO.none _
   | refine LeO.ite ?_ ?_
   | refine LeO.bind ?_ (fun _ => ?_)
set_option maxHeartbeats 3000000 in
set_option maxRecDepth 100000 in
theorem policy_kind.calls (k : Nat) (a0 : Nat) (r : Int) (w : World) (h : policy_kind.f k a0 = some r) :
  Calls Try.prog 28 #[.float .f64 a0] w fun e w' => e = .returned (.int .i64 r) ∧ Below w.heap.size w w' := by
 have hu64 := Try.underlying64
 have HB := Aside0.mk (Below.refl w.heap.size w)
 have H : ((bits_Split.f k a0).bind fun bt118 => (if bt118.2.1 = 4 then (some 5) else (if bt118.2.1 = 3 then (policy_kind.j0 k bt118.1 bt118.1 bt118.2.1 bt118.2.2.1 bt118.2.2.2) else (policy_kind.j0 k false bt118.1 bt118.2.1 bt118.2.2.1 bt118.2.2.2)))) = some r := h
 clear h
 obtain ⟨⟨t118, t119, t120, t121⟩, A2, H⟩ := ob_ H
 try dsimp only at H
 by_cases c3 : t119 = 4
 ·rw [if_pos c3] at H
  have c3b0 : (t119 == 4) = true := beq_iff_eq.mpr c3
  have c3b1 : (t119 != 4) = false := bne_eq_false_iff_eq.mpr c3
  clear c3
  obtain rfl := Option.some.inj H
  go_enter Try.func28, Try.ntmps28
  go_wp2_with (first | ((with_reducible refine gate_callee (f := 40) rfl ?_); refine goesM (some 5) Try.func40 #[.float .f64 a0] ?_; (with_reducible refine (bits_Split.calls k a0 t118 t119 t120 t121 _ A2.out).mono ?_); rintro e w4 ⟨rfl, hb⟩; refine ⟨_, rfl, ?_⟩; have n0_ := bs_ HB hb; clear HB; have HB := n0_; clear n0_; (try clear hb); (try clear hb2); (try clear hk); (try clear hi)) | ((with_reducible refine gate_dst (N := 3) rfl ?_); refine box_event ?hg (N := 3) ?hd (cs := #[.bool false, .int .i64 0, .int .i64 0, .int .u64 0]) (t := 64) ?hr ?_; (case hd => rfl); (case hg => rfl); (case hr => first | (go_simp; done) | (go_simp; rfl)); intro gb122 hg w5 hbox hb; have n0_ := bs_ HB hb; have n1_ := Aside0.mk (hbox); have n2_ := ge_ HB hg; have n3_ := ge_ HB hg; clear HB; have HB := n0_; have BK122 := n1_; have GW122 := n2_; have GE122 := n3_; clear n0_ n1_ n2_ n3_; clear hb hbox hg; have hcz6_0 : w5.cell? ⟨gb122, 0, none⟩ = some (.bool false) := (blk_cell BK122.out 0).trans rfl; have hcz6_1 : w5.cell? ⟨gb122, 1, none⟩ = some (.int .i64 0) := (blk_cell BK122.out 1).trans rfl; have hcz6_2 : w5.cell? ⟨gb122, 2, none⟩ = some (.int .i64 0) := (blk_cell BK122.out 2).trans rfl; have hcz6_3 : w5.cell? ⟨gb122, 3, none⟩ = some (.int .u64 0) := (blk_cell BK122.out 3).trans rfl; have hfz6_0 := blk_frozen BK122.out 0; have hfz6_1 := blk_frozen BK122.out 1; have hfz6_2 := blk_frozen BK122.out 2; have hfz6_3 := blk_frozen BK122.out 3))
  go_ret
  exact ⟨by first | rfl | (simp [errW_none, errW_some] <;> rfl) | (simp [*, errW_none, errW_some] <;> rfl), bl_ HB⟩
 ·rw [if_neg c3] at H
  have c3b0 : (t119 == 4) = false := beq_eq_false_iff_ne.mpr c3
  have c3b1 : (t119 != 4) = true := bne_iff_ne.mpr c3
  have HC7 := Aside0.mk H
  clear H
  go_enter Try.func28, Try.ntmps28
  go_upto_region 4 with (first | ((with_reducible refine gate_callee (f := 40) rfl ?_); refine goesM (some 5) Try.func40 #[.float .f64 a0] ?_; (with_reducible refine (bits_Split.calls k a0 t118 t119 t120 t121 _ A2.out).mono ?_); rintro e w8 ⟨rfl, hb⟩; refine ⟨_, rfl, ?_⟩; have n0_ := bs_ HB hb; clear HB; have HB := n0_; clear n0_; (try clear hb); (try clear hb2); (try clear hk); (try clear hi)) | ((with_reducible refine gate_dst (N := 3) rfl ?_); refine box_event ?hg (N := 3) ?hd (cs := #[.bool false, .int .i64 0, .int .i64 0, .int .u64 0]) (t := 64) ?hr ?_; (case hd => rfl); (case hg => rfl); (case hr => first | (go_simp; done) | (go_simp; rfl)); intro gb122 hg w9 hbox hb; have n0_ := bs_ HB hb; have n1_ := Aside0.mk (hbox); have n2_ := ge_ HB hg; have n3_ := ge_ HB hg; clear HB; have HB := n0_; have BK122 := n1_; have GW122 := n2_; have GE122 := n3_; clear n0_ n1_ n2_ n3_; clear hb hbox hg; have hcz10_0 : w9.cell? ⟨gb122, 0, none⟩ = some (.bool false) := (blk_cell BK122.out 0).trans rfl; have hcz10_1 : w9.cell? ⟨gb122, 1, none⟩ = some (.int .i64 0) := (blk_cell BK122.out 1).trans rfl; have hcz10_2 : w9.cell? ⟨gb122, 2, none⟩ = some (.int .i64 0) := (blk_cell BK122.out 2).trans rfl; have hcz10_3 : w9.cell? ⟨gb122, 3, none⟩ = some (.int .u64 0) := (blk_cell BK122.out 3).trans rfl; have hfz10_0 := blk_frozen BK122.out 0; have hfz10_1 := blk_frozen BK122.out 1; have hfz10_2 := blk_frozen BK122.out 2; have hfz10_3 := blk_frozen BK122.out 3))
  (try simp only [Act.put, List.setIfInBounds_toArray, List.set_cons_zero, List.set_cons_succ])
  go_cut [10] (fun v10 wc => ∃ (kq : Nat) (x10_6 : Bool), v10 = .bool x10_6 ∧ Aside0 (policy_kind.j0 kq x10_6 t118 t119 t120 t121 = some r) ∧ Aside0 (kq ≤ k) ∧ Aside0 (wc.heap[gb122]? = some (.cells #[.bool t118, .int .i64 t119, .int .i64 t120, .int .u64 t121] 64 (0, 0))) ∧ Aside0 (Below w.heap.size w wc))
  case first =>
   have H := HC7.out
   clear HC7
   by_cases c11 : t119 = 3
   ·rw [if_pos c11] at H
    have c11b0 : (t119 == 3) = true := beq_iff_eq.mpr c11
    have c11b1 : (t119 != 3) = false := bne_eq_false_iff_eq.mpr c11
    clear c11
    (first | rw [c11b0] | (simp only [i64_w, i32_w]; rw [c11b0]) | skip)
    have H' := Aside0.mk H
    clear H
    have hcz12_0 : w9.cell? ⟨gb122, 0, none⟩ = some (.bool false) := (blk_cell BK122.out 0).trans rfl
    have hcz12_1 : w9.cell? ⟨gb122, 1, none⟩ = some (.int .i64 0) := (blk_cell BK122.out 1).trans rfl
    have hcz12_2 : w9.cell? ⟨gb122, 2, none⟩ = some (.int .i64 0) := (blk_cell BK122.out 2).trans rfl
    have hcz12_3 : w9.cell? ⟨gb122, 3, none⟩ = some (.int .u64 0) := (blk_cell BK122.out 3).trans rfl
    have hfz12_0 := blk_frozen BK122.out 0
    have hfz12_1 := blk_frozen BK122.out 1
    have hfz12_2 := blk_frozen BK122.out 2
    have hfz12_3 := blk_frozen BK122.out 3
    go_wp2
    go_meet
    case rel => exact ⟨_, (t118), (by first | rfl | (simp; done) | (simp [*]; done)), H', ⟨by first | omega | exact Nat.le_refl _⟩, ⟨by (with_reducible repeat (first | apply bN | apply bD | apply bA)); refine blk_put (cs := #[.bool t118, .int .i64 t119, .int .i64 t120, .int .u64 0]) ?_ 3 _ rfl; (with_reducible repeat (first | apply bN | apply bD | apply bA)); refine blk_put (cs := #[.bool t118, .int .i64 t119, .int .i64 0, .int .u64 0]) ?_ 2 _ rfl; (with_reducible repeat (first | apply bN | apply bD | apply bA)); refine blk_put (cs := #[.bool t118, .int .i64 0, .int .i64 0, .int .u64 0]) ?_ 1 _ rfl; (with_reducible repeat (first | apply bN | apply bD | apply bA)); refine blk_put (cs := #[.bool false, .int .i64 0, .int .i64 0, .int .u64 0]) ?_ 0 _ rfl; (with_reducible repeat (first | apply bN | apply bD | apply bA)); exact BK122.out⟩, ⟨bl_ HB⟩⟩
   ·rw [if_neg c11] at H
    have c11b0 : (t119 == 3) = false := beq_eq_false_iff_ne.mpr c11
    have c11b1 : (t119 != 3) = true := bne_iff_ne.mpr c11
    (first | rw [c11b0] | (simp only [i64_w, i32_w]; rw [c11b0]) | skip)
    have H' := Aside0.mk H
    clear H
    have hcz13_0 : w9.cell? ⟨gb122, 0, none⟩ = some (.bool false) := (blk_cell BK122.out 0).trans rfl
    have hcz13_1 : w9.cell? ⟨gb122, 1, none⟩ = some (.int .i64 0) := (blk_cell BK122.out 1).trans rfl
    have hcz13_2 : w9.cell? ⟨gb122, 2, none⟩ = some (.int .i64 0) := (blk_cell BK122.out 2).trans rfl
    have hcz13_3 : w9.cell? ⟨gb122, 3, none⟩ = some (.int .u64 0) := (blk_cell BK122.out 3).trans rfl
    have hfz13_0 := blk_frozen BK122.out 0
    have hfz13_1 := blk_frozen BK122.out 1
    have hfz13_2 := blk_frozen BK122.out 2
    have hfz13_3 := blk_frozen BK122.out 3
    go_wp2
    go_meet
    case rel => exact ⟨_, (false), (by first | rfl | (simp; done) | (simp [*]; done)), H', ⟨by first | omega | exact Nat.le_refl _⟩, ⟨by (with_reducible repeat (first | apply bN | apply bD | apply bA)); refine blk_put (cs := #[.bool t118, .int .i64 t119, .int .i64 t120, .int .u64 0]) ?_ 3 _ rfl; (with_reducible repeat (first | apply bN | apply bD | apply bA)); refine blk_put (cs := #[.bool t118, .int .i64 t119, .int .i64 0, .int .u64 0]) ?_ 2 _ rfl; (with_reducible repeat (first | apply bN | apply bD | apply bA)); refine blk_put (cs := #[.bool t118, .int .i64 0, .int .i64 0, .int .u64 0]) ?_ 1 _ rfl; (with_reducible repeat (first | apply bN | apply bD | apply bA)); refine blk_put (cs := #[.bool false, .int .i64 0, .int .i64 0, .int .u64 0]) ?_ 0 _ rfl; (with_reducible repeat (first | apply bN | apply bD | apply bA)); exact BK122.out⟩, ⟨bl_ HB⟩⟩
  case rest =>
   clear HC7
   try clear c1
   try clear c2
   try clear p2
   try clear c3
   try clear c3b0
   try clear c3b1
   try clear c4
   try clear c11
   try clear c11b0
   try clear c11b1
   try clear hcz10_0
   try clear hcz10_1
   try clear hcz10_2
   try clear hcz10_3
   try clear hcz12_0
   try clear hcz12_1
   try clear hcz12_2
   try clear hcz12_3
   try clear hcz13_0
   try clear hcz13_1
   try clear hcz13_2
   try clear hcz13_3
   try clear hcz6_0
   try clear hcz6_1
   try clear hcz6_2
   try clear hcz6_3
   try clear hfz10_0
   try clear hfz10_1
   try clear hfz10_2
   try clear hfz10_3
   try clear hfz12_0
   try clear hfz12_1
   try clear hfz12_2
   try clear hfz12_3
   try clear hfz13_0
   try clear hfz13_1
   try clear hfz13_2
   try clear hfz13_3
   try clear hfz6_0
   try clear hfz6_1
   try clear hfz6_2
   try clear hfz6_3
   obtain ⟨kq, x10_6, rfl, HA, HJ6, BK122, HB⟩ := hcut
   cases kq with
   | zero => exact absurd HA.out (by simp [policy_kind.j0])
   | succ kj6 =>
    have H := HA.out
    clear HA
    simp only [policy_kind.j0] at H
    by_cases c14 : x10_6 = true
    ·subst c14
     have H1 : (some 4) = some r := by rw [if_pos rfl] at H; exact H
     clear H
     have H := H1
     clear H1
     obtain rfl := Option.some.inj H
     go_wp2
     go_ret
     exact ⟨by first | rfl | (simp [errW_none, errW_some] <;> rfl) | (simp [*, errW_none, errW_some] <;> rfl), bl_ HB⟩
    ·replace c14 := Bool.eq_false_iff.mpr c14
     subst c14
     have H1 : (if t119 = 3 then (some 3) else (if t119 = 0 then (policy_kind.j1 kj6 t118 t118 t119 t120 t121) else (policy_kind.j1 kj6 false t118 t119 t120 t121))) = some r := by rw [if_neg (show ¬ (false = true) by decide)] at H; exact H
     clear H
     have H := H1
     clear H1
     by_cases c15 : t119 = 3
     ·rw [if_pos c15] at H
      have c15b0 : (t119 == 3) = true := beq_iff_eq.mpr c15
      have c15b1 : (t119 != 3) = false := bne_eq_false_iff_eq.mpr c15
      clear c15
      obtain rfl := Option.some.inj H
      have hcz16_0 : wc.cell? ⟨gb122, 0, none⟩ = some (.bool t118) := (blk_cell BK122.out 0).trans rfl
      have hcz16_1 : wc.cell? ⟨gb122, 1, none⟩ = some (.int .i64 t119) := (blk_cell BK122.out 1).trans rfl
      have hcz16_2 : wc.cell? ⟨gb122, 2, none⟩ = some (.int .i64 t120) := (blk_cell BK122.out 2).trans rfl
      have hcz16_3 : wc.cell? ⟨gb122, 3, none⟩ = some (.int .u64 t121) := (blk_cell BK122.out 3).trans rfl
      have hfz16_0 := blk_frozen BK122.out 0
      have hfz16_1 := blk_frozen BK122.out 1
      have hfz16_2 := blk_frozen BK122.out 2
      have hfz16_3 := blk_frozen BK122.out 3
      go_wp2
      go_ret
      exact ⟨by first | rfl | (simp [errW_none, errW_some] <;> rfl) | (simp [*, errW_none, errW_some] <;> rfl), bl_ HB⟩
     ·rw [if_neg c15] at H
      have c15b0 : (t119 == 3) = false := beq_eq_false_iff_ne.mpr c15
      have c15b1 : (t119 != 3) = true := bne_iff_ne.mpr c15
      have HC17 := Aside0.mk H
      clear H
      have hcz18_0 : wc.cell? ⟨gb122, 0, none⟩ = some (.bool t118) := (blk_cell BK122.out 0).trans rfl
      have hcz18_1 : wc.cell? ⟨gb122, 1, none⟩ = some (.int .i64 t119) := (blk_cell BK122.out 1).trans rfl
      have hcz18_2 : wc.cell? ⟨gb122, 2, none⟩ = some (.int .i64 t120) := (blk_cell BK122.out 2).trans rfl
      have hcz18_3 : wc.cell? ⟨gb122, 3, none⟩ = some (.int .u64 t121) := (blk_cell BK122.out 3).trans rfl
      have hfz18_0 := blk_frozen BK122.out 0
      have hfz18_1 := blk_frozen BK122.out 1
      have hfz18_2 := blk_frozen BK122.out 2
      have hfz18_3 := blk_frozen BK122.out 3
      go_upto_region 8 with (fail)
      go_cut [22] (fun v22 wc => ∃ (kq : Nat) (x22_16 : Bool), v22 = .bool x22_16 ∧ Aside0 (policy_kind.j1 kq x22_16 t118 t119 t120 t121 = some r) ∧ Aside0 (kq ≤ kj6) ∧ Aside0 (wc.heap[gb122]? = some (.cells #[.bool t118, .int .i64 t119, .int .i64 t120, .int .u64 t121] 64 (0, 0))) ∧ Aside0 (Below w.heap.size w wc))
      case first =>
       have H := HC17.out
       clear HC17
       by_cases c19 : t119 = 0
       ·rw [if_pos c19] at H
        have c19b0 : (t119 == 0) = true := beq_iff_eq.mpr c19
        have c19b1 : (t119 != 0) = false := bne_eq_false_iff_eq.mpr c19
        clear c19
        (first | rw [c19b0] | (simp only [i64_w, i32_w]; rw [c19b0]) | skip)
        have H' := Aside0.mk H
        clear H
        have hcz20_0 : wc.cell? ⟨gb122, 0, none⟩ = some (.bool t118) := (blk_cell BK122.out 0).trans rfl
        have hcz20_1 : wc.cell? ⟨gb122, 1, none⟩ = some (.int .i64 t119) := (blk_cell BK122.out 1).trans rfl
        have hcz20_2 : wc.cell? ⟨gb122, 2, none⟩ = some (.int .i64 t120) := (blk_cell BK122.out 2).trans rfl
        have hcz20_3 : wc.cell? ⟨gb122, 3, none⟩ = some (.int .u64 t121) := (blk_cell BK122.out 3).trans rfl
        have hfz20_0 := blk_frozen BK122.out 0
        have hfz20_1 := blk_frozen BK122.out 1
        have hfz20_2 := blk_frozen BK122.out 2
        have hfz20_3 := blk_frozen BK122.out 3
        go_wp2
        go_meet
        case rel => exact ⟨_, (t118), (by first | rfl | (simp; done) | (simp [*]; done)), H', ⟨by have := HJ6.out; first | omega | exact Nat.le_refl _⟩, ⟨by (with_reducible repeat (first | apply bN | apply bD | apply bA)); exact BK122.out⟩, ⟨bl_ HB⟩⟩
       ·rw [if_neg c19] at H
        have c19b0 : (t119 == 0) = false := beq_eq_false_iff_ne.mpr c19
        have c19b1 : (t119 != 0) = true := bne_iff_ne.mpr c19
        (first | rw [c19b0] | (simp only [i64_w, i32_w]; rw [c19b0]) | skip)
        have H' := Aside0.mk H
        clear H
        have hcz21_0 : wc.cell? ⟨gb122, 0, none⟩ = some (.bool t118) := (blk_cell BK122.out 0).trans rfl
        have hcz21_1 : wc.cell? ⟨gb122, 1, none⟩ = some (.int .i64 t119) := (blk_cell BK122.out 1).trans rfl
        have hcz21_2 : wc.cell? ⟨gb122, 2, none⟩ = some (.int .i64 t120) := (blk_cell BK122.out 2).trans rfl
        have hcz21_3 : wc.cell? ⟨gb122, 3, none⟩ = some (.int .u64 t121) := (blk_cell BK122.out 3).trans rfl
        have hfz21_0 := blk_frozen BK122.out 0
        have hfz21_1 := blk_frozen BK122.out 1
        have hfz21_2 := blk_frozen BK122.out 2
        have hfz21_3 := blk_frozen BK122.out 3
        go_wp2
        go_meet
        case rel => exact ⟨_, (false), (by first | rfl | (simp; done) | (simp [*]; done)), H', ⟨by have := HJ6.out; first | omega | exact Nat.le_refl _⟩, ⟨by (with_reducible repeat (first | apply bN | apply bD | apply bA)); exact BK122.out⟩, ⟨bl_ HB⟩⟩
      case rest =>
       clear HC17
       try clear c1
       try clear c2
       try clear p2
       try clear c3
       try clear c3b0
       try clear c3b1
       try clear c4
       try clear c11
       try clear c11b0
       try clear c11b1
       try clear c14
       try clear c15
       try clear c15b0
       try clear c15b1
       try clear c19
       try clear c19b0
       try clear c19b1
       try clear hcz10_0
       try clear hcz10_1
       try clear hcz10_2
       try clear hcz10_3
       try clear hcz12_0
       try clear hcz12_1
       try clear hcz12_2
       try clear hcz12_3
       try clear hcz13_0
       try clear hcz13_1
       try clear hcz13_2
       try clear hcz13_3
       try clear hcz16_0
       try clear hcz16_1
       try clear hcz16_2
       try clear hcz16_3
       try clear hcz18_0
       try clear hcz18_1
       try clear hcz18_2
       try clear hcz18_3
       try clear hcz20_0
       try clear hcz20_1
       try clear hcz20_2
       try clear hcz20_3
       try clear hcz21_0
       try clear hcz21_1
       try clear hcz21_2
       try clear hcz21_3
       try clear hcz6_0
       try clear hcz6_1
       try clear hcz6_2
       try clear hcz6_3
       try clear hfz10_0
       try clear hfz10_1
       try clear hfz10_2
       try clear hfz10_3
       try clear hfz12_0
       try clear hfz12_1
       try clear hfz12_2
       try clear hfz12_3
       try clear hfz13_0
       try clear hfz13_1
       try clear hfz13_2
       try clear hfz13_3
       try clear hfz16_0
       try clear hfz16_1
       try clear hfz16_2
       try clear hfz16_3
       try clear hfz18_0
       try clear hfz18_1
       try clear hfz18_2
       try clear hfz18_3
       try clear hfz20_0
       try clear hfz20_1
       try clear hfz20_2
       try clear hfz20_3
       try clear hfz21_0
       try clear hfz21_1
       try clear hfz21_2
       try clear hfz21_3
       try clear hfz6_0
       try clear hfz6_1
       try clear hfz6_2
       try clear hfz6_3
       try clear p2
       obtain ⟨kq, x22_16, rfl, HA, HJ16, BK122, HB⟩ := hcut
       cases kq with
       | zero => exact absurd HA.out (by simp [policy_kind.j1])
       | succ kj16 =>
        have H := HA.out
        clear HA
        simp only [policy_kind.j1] at H
        by_cases c22 : x22_16 = true
        ·subst c22
         have H1 : (some 1) = some r := by rw [if_pos rfl] at H; exact H
         clear H
         have H := H1
         clear H1
         obtain rfl := Option.some.inj H
         go_wp2
         go_ret
         exact ⟨by first | rfl | (simp [errW_none, errW_some] <;> rfl) | (simp [*, errW_none, errW_some] <;> rfl), bl_ HB⟩
        ·replace c22 := Bool.eq_false_iff.mpr c22
         subst c22
         have H1 : (if t119 = 0 then (some 2) else (some 0)) = some r := by rw [if_neg (show ¬ (false = true) by decide)] at H; exact H
         clear H
         have H := H1
         clear H1
         by_cases c23 : t119 = 0
         ·rw [if_pos c23] at H
          have c23b0 : (t119 == 0) = true := beq_iff_eq.mpr c23
          have c23b1 : (t119 != 0) = false := bne_eq_false_iff_eq.mpr c23
          clear c23
          obtain rfl := Option.some.inj H
          have hcz24_0 : wc.cell? ⟨gb122, 0, none⟩ = some (.bool t118) := (blk_cell BK122.out 0).trans rfl
          have hcz24_1 : wc.cell? ⟨gb122, 1, none⟩ = some (.int .i64 t119) := (blk_cell BK122.out 1).trans rfl
          have hcz24_2 : wc.cell? ⟨gb122, 2, none⟩ = some (.int .i64 t120) := (blk_cell BK122.out 2).trans rfl
          have hcz24_3 : wc.cell? ⟨gb122, 3, none⟩ = some (.int .u64 t121) := (blk_cell BK122.out 3).trans rfl
          have hfz24_0 := blk_frozen BK122.out 0
          have hfz24_1 := blk_frozen BK122.out 1
          have hfz24_2 := blk_frozen BK122.out 2
          have hfz24_3 := blk_frozen BK122.out 3
          go_wp2
          go_ret
          exact ⟨by first | rfl | (simp [errW_none, errW_some] <;> rfl) | (simp [*, errW_none, errW_some] <;> rfl), bl_ HB⟩
         ·rw [if_neg c23] at H
          have c23b0 : (t119 == 0) = false := beq_eq_false_iff_ne.mpr c23
          have c23b1 : (t119 != 0) = true := bne_iff_ne.mpr c23
          obtain rfl := Option.some.inj H
          have hcz25_0 : wc.cell? ⟨gb122, 0, none⟩ = some (.bool t118) := (blk_cell BK122.out 0).trans rfl
          have hcz25_1 : wc.cell? ⟨gb122, 1, none⟩ = some (.int .i64 t119) := (blk_cell BK122.out 1).trans rfl
          have hcz25_2 : wc.cell? ⟨gb122, 2, none⟩ = some (.int .i64 t120) := (blk_cell BK122.out 2).trans rfl
          have hcz25_3 : wc.cell? ⟨gb122, 3, none⟩ = some (.int .u64 t121) := (blk_cell BK122.out 3).trans rfl
          have hfz25_0 := blk_frozen BK122.out 0
          have hfz25_1 := blk_frozen BK122.out 1
          have hfz25_2 := blk_frozen BK122.out 2
          have hfz25_3 := blk_frozen BK122.out 3
          go_wp2
          go_ret
          exact ⟨by first | rfl | (simp [errW_none, errW_some] <;> rfl) | (simp [*, errW_none, errW_some] <;> rfl), bl_ HB⟩

end Go.Proofs.Ytkoonpjlpobmeaa.Pr
