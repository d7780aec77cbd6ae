import Derived.Test.YtkoonpjlpobmeaaPolicySiftsM0
import Derived.Test.YtkoonpjlpobmeaaPolicySiftsM1
import Derived.Test.YtkoonpjlpobmeaaPolicySiftsM2
-- written by this session's own program (wip/fprint.py), which widens the kit's print by floats
namespace Go.Proofs.Ytkoonpjlpobmeaa.Pr
open Go.RowKit Go.Proofs.YtkoonpjlpobmeaaW.PrintWords Go.Proofs.YtkoonpjlpobmeaaW.PrintLast Go.Proofs.YtkoonpjlpobmeaaW.PrintMore
attribute [local go_sem] max2_int min2_int max_two min_two max_three min_three max_four min_four   -- for this text's walks alone
set_option linter.unusedVariables false
set_option linter.unusedSimpArgs false

/-! ### r06_Nought: function 22 -/
def r06_Nought.j0 : Nat → Int → Int → Bool → Int → Int → Int → Int → Int → Int → Option (Nat)
  | 0, _, _, _, _, _, _, _, _, _ => none
  | k + 1, x1, x6, x20, x222000, x222001, x222002, x222003, x222004, x222005 => if x20 = true then ((r06_Zero.f false).bind fun t223 => (some t223)) else (if x222003 = x6 then ((r06_Zero.f true).bind fun t224 => (some t224)) else (if x222004 = x6 then ((r06_Zero.f false).bind fun t225 => (some t225)) else ((r06_Zero.f (x1 == 3)).bind fun t226 => (some t226))))
def r06_Nought.f (k : Nat) (a0_0 : Int) (a0_1 : Int) (a0_2 : Int) (a0_3 : Int) (a0_4 : Int) (a0_5 : Int) (a1 : Int) : Option (Nat) := (r06_MayBe.f a0_0 a0_1 a0_2 a0_3 a0_4 a0_5).bind fun t222 => (if t222 = true then (r06_Nought.j0 k a1 (wrap64 ((wrap64 ((wrap64 (a0_5 - a0_0)) - a0_1)) - a0_2)) ((wrap64 ((wrap64 ((wrap64 (a0_5 - a0_0)) - a0_1)) - a0_2)) == 0) a0_0 a0_1 a0_2 a0_3 a0_4 a0_5) else (r06_Nought.j0 k a1 (wrap64 ((wrap64 ((wrap64 (a0_5 - a0_0)) - a0_1)) - a0_2)) true a0_0 a0_1 a0_2 a0_3 a0_4 a0_5))
theorem r06_Nought.mono_l : ∀ k, (∀ y0 y1 y2 y3 y4 y5 y6 y7 y8, LeO (r06_Nought.j0 k y0 y1 y2 y3 y4 y5 y6 y7 y8) (r06_Nought.j0 (k + 1) y0 y1 y2 y3 y4 y5 y6 y7 y8))
  | 0 => fun _ _ _ _ _ _ _ _ _ r h => by simp [r06_Nought.j0] at h
  | k + 1 => by
    have ih0 := r06_Nought.mono_l k
    · intro y0 y1 y2 y3 y4 y5 y6 y7 y8
      unfold r06_Nought.j0
      repeat' first
      | (with_reducible exact ih0 _ _ _ _ _ _ _ _ _)
      | (with_reducible exact LeO.refl _)
      | (with_reducible exact LeO.none _)
      | (with_reducible refine LeO.ite ?_ ?_)
      | (with_reducible refine LeO.bind ?_ (fun _ => ?_))
      | exact ih0 _ _ _ _ _ _ _ _ _
      | exact LeO.none _
      | refine LeO.ite ?_ ?_
      | refine LeO.bind ?_ (fun _ => ?_)
theorem r06_Nought.mono : ∀ a0 a1 a2 a3 a4 a5 a6 k, LeO (r06_Nought.f k a0 a1 a2 a3 a4 a5 a6) (r06_Nought.f (k + 1) a0 a1 a2 a3 a4 a5 a6) := by
  intro a0 a1 a2 a3 a4 a5 a6 k
  have ih0 := r06_Nought.mono_l k
  unfold r06_Nought.f
  repeat' first
      | (with_reducible exact ih0 _ _ _ _ _ _ _ _ _)
      | (with_reducible exact LeO.refl _)
      | (with_reducible exact LeO.none _)
      | (with_reducible refine LeO.ite ?_ ?_)
      | (with_reducible refine LeO.bind ?_ (fun _ => ?_))
      | exact ih0 _ _ _ _ _ _ _ _ _
      | exact LeO.none _
      | refine LeO.ite ?_ ?_
      | refine LeO.bind ?_ (fun _ => ?_)
set_option maxHeartbeats 3000000 in
set_option maxRecDepth 100000 in
theorem r06_Nought.calls (k : Nat) (a0_0 : Int) (a0_1 : Int) (a0_2 : Int) (a0_3 : Int) (a0_4 : Int) (a0_5 : Int) (a1 : Int) (r : Nat) (w : World) (h : r06_Nought.f k a0_0 a0_1 a0_2 a0_3 a0_4 a0_5 a1 = some r) :
    Calls Try.prog 22 #[.agg #[.int .i64 a0_0, .int .i64 a0_1, .int .i64 a0_2, .int .i64 a0_3, .int .i64 a0_4, .int .i64 a0_5], .int .i64 a1] w fun e w' => e = .returned (.float .f64 r) ∧ Below w.heap.size w w' := by
  have hu30 := Try.underlying30
  have HB := Aside0.mk (Below.refl w.heap.size w)
  have H : ((r06_MayBe.f a0_0 a0_1 a0_2 a0_3 a0_4 a0_5).bind fun t222 => (if t222 = true then (r06_Nought.j0 k a1 (wrap64 ((wrap64 ((wrap64 (a0_5 - a0_0)) - a0_1)) - a0_2)) ((wrap64 ((wrap64 ((wrap64 (a0_5 - a0_0)) - a0_1)) - a0_2)) == 0) a0_0 a0_1 a0_2 a0_3 a0_4 a0_5) else (r06_Nought.j0 k a1 (wrap64 ((wrap64 ((wrap64 (a0_5 - a0_0)) - a0_1)) - a0_2)) true a0_0 a0_1 a0_2 a0_3 a0_4 a0_5))) = some r := h
  clear h
  replace H := Option.bind_eq_some_iff.mp H
  obtain ⟨t222, A30, H⟩ := H
  replace H : (if t222 = true then (r06_Nought.j0 k a1 (wrap64 ((wrap64 ((wrap64 (a0_5 - a0_0)) - a0_1)) - a0_2)) ((wrap64 ((wrap64 ((wrap64 (a0_5 - a0_0)) - a0_1)) - a0_2)) == 0) a0_0 a0_1 a0_2 a0_3 a0_4 a0_5) else (r06_Nought.j0 k a1 (wrap64 ((wrap64 ((wrap64 (a0_5 - a0_0)) - a0_1)) - a0_2)) true a0_0 a0_1 a0_2 a0_3 a0_4 a0_5)) = some r := H
  have A3 := Aside0.mk A30
  clear A30
  have HC4 := Aside0.mk H
  clear H
  go_enter Try.func22, Try.ntmps22
  go_upto_region 3 with (first | ((with_reducible refine gate_dst (N := 2) rfl ?_); refine box_event ?hg (N := 2) ?hd (cs := #[.int .i64 a0_0, .int .i64 a0_1, .int .i64 a0_2, .int .i64 a0_3, .int .i64 a0_4, .int .i64 a0_5]) (t := 30) ?hr ?_; (case hd => rfl); (case hg => rfl); (case hr => first | (go_simp; done) | (go_simp; rfl)); intro gb221 hg w5 hbox hb; have n0_ := bs_ HB hb; have n1_ := Aside0.mk (hbox); have n2_ := ge_ HB hg; have n3_ := ge_ HB hg; clear HB; have HB := n0_; have BK221 := n1_; have GW221 := n2_; have GE221 := n3_; clear n0_ n1_ n2_ n3_; clear hb hbox hg; have hcz6_0 : w5.cell? ⟨gb221, 0, none⟩ = some (.int .i64 a0_0) := (blk_cell BK221.out 0).trans rfl; have hcz6_1 : w5.cell? ⟨gb221, 1, none⟩ = some (.int .i64 a0_1) := (blk_cell BK221.out 1).trans rfl; have hcz6_2 : w5.cell? ⟨gb221, 2, none⟩ = some (.int .i64 a0_2) := (blk_cell BK221.out 2).trans rfl; have hcz6_3 : w5.cell? ⟨gb221, 3, none⟩ = some (.int .i64 a0_3) := (blk_cell BK221.out 3).trans rfl; have hcz6_4 : w5.cell? ⟨gb221, 4, none⟩ = some (.int .i64 a0_4) := (blk_cell BK221.out 4).trans rfl; have hcz6_5 : w5.cell? ⟨gb221, 5, none⟩ = some (.int .i64 a0_5) := (blk_cell BK221.out 5).trans rfl; have hfz6_0 := blk_frozen BK221.out 0; have hfz6_1 := blk_frozen BK221.out 1; have hfz6_2 := blk_frozen BK221.out 2; have hfz6_3 := blk_frozen BK221.out 3; have hfz6_4 := blk_frozen BK221.out 4; have hfz6_5 := blk_frozen BK221.out 5) | ((with_reducible refine gate_callee (f := 36) rfl ?_); refine goesL_ (some 8) rfl rfl Try.func36 (by kernel_rfl) rfl #[.agg #[.int .i64 a0_0, .int .i64 a0_1, .int .i64 a0_2, .int .i64 a0_3, .int .i64 a0_4, .int .i64 a0_5]] rfl (by (try simp only [List.map_toArray, List.map_cons, List.map_nil]); first | done | rfl | (simp only [List.length_drop, List.length_take]; rfl)) ?_; (with_reducible refine (r06_MayBe.calls a0_0 a0_1 a0_2 a0_3 a0_4 a0_5 t222 _ A3.out).mono ?_); rintro e w7 ⟨rfl, hb⟩; refine ⟨_, rfl, ?_⟩; have n0_ := kb_ BK221 hb; have n1_ := bs_ HB hb; clear BK221; clear HB; have BK221 := n0_; have HB := n1_; clear n0_ n1_; (try clear hb); (try clear hb2); (try clear hk); (try clear hi); have hcz8_0 : w7.cell? ⟨gb221, 0, none⟩ = some (.int .i64 a0_0) := (blk_cell BK221.out 0).trans rfl; have hcz8_1 : w7.cell? ⟨gb221, 1, none⟩ = some (.int .i64 a0_1) := (blk_cell BK221.out 1).trans rfl; have hcz8_2 : w7.cell? ⟨gb221, 2, none⟩ = some (.int .i64 a0_2) := (blk_cell BK221.out 2).trans rfl; have hcz8_3 : w7.cell? ⟨gb221, 3, none⟩ = some (.int .i64 a0_3) := (blk_cell BK221.out 3).trans rfl; have hcz8_4 : w7.cell? ⟨gb221, 4, none⟩ = some (.int .i64 a0_4) := (blk_cell BK221.out 4).trans rfl; have hcz8_5 : w7.cell? ⟨gb221, 5, none⟩ = some (.int .i64 a0_5) := (blk_cell BK221.out 5).trans rfl; have hfz8_0 := blk_frozen BK221.out 0; have hfz8_1 := blk_frozen BK221.out 1; have hfz8_2 := blk_frozen BK221.out 2; have hfz8_3 := blk_frozen BK221.out 3; have hfz8_4 := blk_frozen BK221.out 4; have hfz8_5 := blk_frozen BK221.out 5))
  (try simp only [Act.put, List.setIfInBounds_toArray, List.set_cons_zero, List.set_cons_succ])
  go_cut [20] (fun v20 wc => ∃ (kq : Nat) (x20_3 : Bool), v20 = .bool x20_3 ∧ Aside0 (r06_Nought.j0 kq a1 (wrap64 ((wrap64 ((wrap64 (a0_5 - a0_0)) - a0_1)) - a0_2)) x20_3 a0_0 a0_1 a0_2 a0_3 a0_4 a0_5 = some r) ∧ Aside0 (kq ≤ k) ∧ Aside0 (wc.heap[gb221]? = some (.cells #[.int .i64 a0_0, .int .i64 a0_1, .int .i64 a0_2, .int .i64 a0_3, .int .i64 a0_4, .int .i64 a0_5] 30 (0, 0))) ∧ Aside0 (Below w.heap.size w wc))
  case first =>
    have H := HC4.out
    clear HC4
    by_cases c9 : t222 = true
    · subst c9
      have H1 : (r06_Nought.j0 k a1 (wrap64 ((wrap64 ((wrap64 (a0_5 - a0_0)) - a0_1)) - a0_2)) ((wrap64 ((wrap64 ((wrap64 (a0_5 - a0_0)) - a0_1)) - a0_2)) == 0) a0_0 a0_1 a0_2 a0_3 a0_4 a0_5) = some r := by rw [if_pos rfl] at H; exact H
      clear H
      have H := H1
      clear H1
      have H' := Aside0.mk H
      clear H
      go_wp2
      go_meet
      case rel => exact ⟨_, (((wrap64 ((wrap64 ((wrap64 (a0_5 - a0_0)) - a0_1)) - a0_2)) == 0)), (by first | rfl | (simp; done) | (simp [*]; done)), H', ⟨by first | omega | exact Nat.le_refl _⟩, ⟨by (with_reducible repeat (first | refine blk_drewN ?_ _ | refine blk_drew ?_ | refine blk_alloc ?_ _)); exact BK221.out⟩, ⟨by repeat (first | (with_reducible first | exact HB.out | apply below_alloc | apply pw_below_drewN | apply below_drew1 | refine below_set ?_ GE221.out) | exact HB.out)⟩⟩
    · replace c9 := Bool.eq_false_iff.mpr c9
      subst c9
      have H1 : (r06_Nought.j0 k a1 (wrap64 ((wrap64 ((wrap64 (a0_5 - a0_0)) - a0_1)) - a0_2)) true a0_0 a0_1 a0_2 a0_3 a0_4 a0_5) = some r := by rw [if_neg (show ¬ (false = true) by decide)] at H; exact H
      clear H
      have H := H1
      clear H1
      have H' := Aside0.mk H
      clear H
      go_wp2
      go_meet
      case rel => exact ⟨_, (true), (by first | rfl | (simp; done) | (simp [*]; done)), H', ⟨by first | omega | exact Nat.le_refl _⟩, ⟨by (with_reducible repeat (first | refine blk_drewN ?_ _ | refine blk_drew ?_ | refine blk_alloc ?_ _)); exact BK221.out⟩, ⟨by repeat (first | (with_reducible first | exact HB.out | apply below_alloc | apply pw_below_drewN | apply below_drew1 | refine below_set ?_ GE221.out) | exact HB.out)⟩⟩
  case rest =>
    clear HC4
    try clear c2
    try clear p2
    try clear c3
    try clear p6
    try clear c9
    try clear hcz6_0
    try clear hcz6_1
    try clear hcz6_2
    try clear hcz6_3
    try clear hcz6_4
    try clear hcz6_5
    try clear hcz8_0
    try clear hcz8_1
    try clear hcz8_2
    try clear hcz8_3
    try clear hcz8_4
    try clear hcz8_5
    try clear hfz6_0
    try clear hfz6_1
    try clear hfz6_2
    try clear hfz6_3
    try clear hfz6_4
    try clear hfz6_5
    try clear hfz8_0
    try clear hfz8_1
    try clear hfz8_2
    try clear hfz8_3
    try clear hfz8_4
    try clear hfz8_5
    obtain ⟨kq, x20_3, rfl, HA, HJ3, BK221, HB⟩ := hcut
    cases kq with
    | zero => exact absurd HA.out (by simp [r06_Nought.j0])
    | succ kj3 =>
      have H := HA.out
      clear HA
      simp only [r06_Nought.j0] at H
      by_cases c10 : x20_3 = true
      · subst c10
        have H1 : ((r06_Zero.f false).bind fun t223 => (some t223)) = some r := by rw [if_pos rfl] at H; exact H
        clear H
        have H := H1
        clear H1
        replace H := Option.bind_eq_some_iff.mp H
        obtain ⟨t223, A110, H⟩ := H
        replace H : (some t223) = some r := H
        have A11 := Aside0.mk A110
        clear A110
        obtain rfl := Option.some.inj H
        go_wp2_with (first | ((with_reducible refine gate_callee (f := 24) rfl ?_); refine goesL_ (some 27) rfl rfl Try.func24 (by kernel_rfl) rfl #[.bool false] rfl (by (try simp only [List.map_toArray, List.map_cons, List.map_nil]); first | done | rfl | (simp only [List.length_drop, List.length_take]; rfl)) ?_; (with_reducible refine (r06_Zero.calls false t223 _ A11.out).mono ?_); rintro e w' ⟨rfl, ⟨nd, rfl⟩⟩; refine ⟨_, rfl, ?_⟩))
        go_ret
        exact ⟨by first | rfl | (simp [errW_none, errW_some] <;> rfl) | (simp [*, errW_none, errW_some] <;> rfl), by repeat (first | (with_reducible first | exact HB.out | apply below_alloc | apply pw_below_drewN | apply below_drew1 | refine below_set ?_ GE221.out) | exact HB.out)⟩
      · replace c10 := Bool.eq_false_iff.mpr c10
        subst c10
        have H1 : (if a0_3 = (wrap64 ((wrap64 ((wrap64 (a0_5 - a0_0)) - a0_1)) - a0_2)) then ((r06_Zero.f true).bind fun t224 => (some t224)) else (if a0_4 = (wrap64 ((wrap64 ((wrap64 (a0_5 - a0_0)) - a0_1)) - a0_2)) then ((r06_Zero.f false).bind fun t225 => (some t225)) else ((r06_Zero.f (a1 == 3)).bind fun t226 => (some t226)))) = some r := by rw [if_neg (show ¬ (false = true) by decide)] at H; exact H
        clear H
        have H := H1
        clear H1
        by_cases c12 : a0_3 = (wrap64 ((wrap64 ((wrap64 (a0_5 - a0_0)) - a0_1)) - a0_2))
        · rw [if_pos c12] at H
          have c12b0 : (a0_3 == (wrap64 ((wrap64 ((wrap64 (a0_5 - a0_0)) - a0_1)) - a0_2))) = true := beq_iff_eq.mpr c12
          have c12b1 : (a0_3 != (wrap64 ((wrap64 ((wrap64 (a0_5 - a0_0)) - a0_1)) - a0_2))) = false := bne_eq_false_iff_eq.mpr c12
          clear c12
          replace H := Option.bind_eq_some_iff.mp H
          obtain ⟨t224, A130, H⟩ := H
          replace H : (some t224) = some r := H
          have A13 := Aside0.mk A130
          clear A130
          obtain rfl := Option.some.inj H
          have hcz14_0 : wc.cell? ⟨gb221, 0, none⟩ = some (.int .i64 a0_0) := (blk_cell BK221.out 0).trans rfl
          have hcz14_1 : wc.cell? ⟨gb221, 1, none⟩ = some (.int .i64 a0_1) := (blk_cell BK221.out 1).trans rfl
          have hcz14_2 : wc.cell? ⟨gb221, 2, none⟩ = some (.int .i64 a0_2) := (blk_cell BK221.out 2).trans rfl
          have hcz14_3 : wc.cell? ⟨gb221, 3, none⟩ = some (.int .i64 a0_3) := (blk_cell BK221.out 3).trans rfl
          have hcz14_4 : wc.cell? ⟨gb221, 4, none⟩ = some (.int .i64 a0_4) := (blk_cell BK221.out 4).trans rfl
          have hcz14_5 : wc.cell? ⟨gb221, 5, none⟩ = some (.int .i64 a0_5) := (blk_cell BK221.out 5).trans rfl
          have hfz14_0 := blk_frozen BK221.out 0
          have hfz14_1 := blk_frozen BK221.out 1
          have hfz14_2 := blk_frozen BK221.out 2
          have hfz14_3 := blk_frozen BK221.out 3
          have hfz14_4 := blk_frozen BK221.out 4
          have hfz14_5 := blk_frozen BK221.out 5
          go_wp2_with (first | ((with_reducible refine gate_callee (f := 24) rfl ?_); refine goesL_ (some 33) rfl rfl Try.func24 (by kernel_rfl) rfl #[.bool true] rfl (by (try simp only [List.map_toArray, List.map_cons, List.map_nil]); first | done | rfl | (simp only [List.length_drop, List.length_take]; rfl)) ?_; (with_reducible refine (r06_Zero.calls true t224 _ A13.out).mono ?_); rintro e w' ⟨rfl, ⟨nd, rfl⟩⟩; refine ⟨_, rfl, ?_⟩))
          go_ret
          exact ⟨by first | rfl | (simp [errW_none, errW_some] <;> rfl) | (simp [*, errW_none, errW_some] <;> rfl), by repeat (first | (with_reducible first | exact HB.out | apply below_alloc | apply pw_below_drewN | apply below_drew1 | refine below_set ?_ GE221.out) | exact HB.out)⟩
        · rw [if_neg c12] at H
          have c12b0 : (a0_3 == (wrap64 ((wrap64 ((wrap64 (a0_5 - a0_0)) - a0_1)) - a0_2))) = false := beq_eq_false_iff_ne.mpr c12
          have c12b1 : (a0_3 != (wrap64 ((wrap64 ((wrap64 (a0_5 - a0_0)) - a0_1)) - a0_2))) = true := bne_iff_ne.mpr c12
          by_cases c15 : a0_4 = (wrap64 ((wrap64 ((wrap64 (a0_5 - a0_0)) - a0_1)) - a0_2))
          · rw [if_pos c15] at H
            have c15b0 : (a0_4 == (wrap64 ((wrap64 ((wrap64 (a0_5 - a0_0)) - a0_1)) - a0_2))) = true := beq_iff_eq.mpr c15
            have c15b1 : (a0_4 != (wrap64 ((wrap64 ((wrap64 (a0_5 - a0_0)) - a0_1)) - a0_2))) = false := bne_eq_false_iff_eq.mpr c15
            clear c15
            replace H := Option.bind_eq_some_iff.mp H
            obtain ⟨t225, A160, H⟩ := H
            replace H : (some t225) = some r := H
            have A16 := Aside0.mk A160
            clear A160
            obtain rfl := Option.some.inj H
            have hcz17_0 : wc.cell? ⟨gb221, 0, none⟩ = some (.int .i64 a0_0) := (blk_cell BK221.out 0).trans rfl
            have hcz17_1 : wc.cell? ⟨gb221, 1, none⟩ = some (.int .i64 a0_1) := (blk_cell BK221.out 1).trans rfl
            have hcz17_2 : wc.cell? ⟨gb221, 2, none⟩ = some (.int .i64 a0_2) := (blk_cell BK221.out 2).trans rfl
            have hcz17_3 : wc.cell? ⟨gb221, 3, none⟩ = some (.int .i64 a0_3) := (blk_cell BK221.out 3).trans rfl
            have hcz17_4 : wc.cell? ⟨gb221, 4, none⟩ = some (.int .i64 a0_4) := (blk_cell BK221.out 4).trans rfl
            have hcz17_5 : wc.cell? ⟨gb221, 5, none⟩ = some (.int .i64 a0_5) := (blk_cell BK221.out 5).trans rfl
            have hfz17_0 := blk_frozen BK221.out 0
            have hfz17_1 := blk_frozen BK221.out 1
            have hfz17_2 := blk_frozen BK221.out 2
            have hfz17_3 := blk_frozen BK221.out 3
            have hfz17_4 := blk_frozen BK221.out 4
            have hfz17_5 := blk_frozen BK221.out 5
            go_wp2_with (first | ((with_reducible refine gate_callee (f := 24) rfl ?_); refine goesL_ (some 39) rfl rfl Try.func24 (by kernel_rfl) rfl #[.bool false] rfl (by (try simp only [List.map_toArray, List.map_cons, List.map_nil]); first | done | rfl | (simp only [List.length_drop, List.length_take]; rfl)) ?_; (with_reducible refine (r06_Zero.calls false t225 _ A16.out).mono ?_); rintro e w' ⟨rfl, ⟨nd, rfl⟩⟩; refine ⟨_, rfl, ?_⟩))
            go_ret
            exact ⟨by first | rfl | (simp [errW_none, errW_some] <;> rfl) | (simp [*, errW_none, errW_some] <;> rfl), by repeat (first | (with_reducible first | exact HB.out | apply below_alloc | apply pw_below_drewN | apply below_drew1 | refine below_set ?_ GE221.out) | exact HB.out)⟩
          · rw [if_neg c15] at H
            have c15b0 : (a0_4 == (wrap64 ((wrap64 ((wrap64 (a0_5 - a0_0)) - a0_1)) - a0_2))) = false := beq_eq_false_iff_ne.mpr c15
            have c15b1 : (a0_4 != (wrap64 ((wrap64 ((wrap64 (a0_5 - a0_0)) - a0_1)) - a0_2))) = true := bne_iff_ne.mpr c15
            replace H := Option.bind_eq_some_iff.mp H
            obtain ⟨t226, A180, H⟩ := H
            replace H : (some t226) = some r := H
            have A18 := Aside0.mk A180
            clear A180
            obtain rfl := Option.some.inj H
            have hcz19_0 : wc.cell? ⟨gb221, 0, none⟩ = some (.int .i64 a0_0) := (blk_cell BK221.out 0).trans rfl
            have hcz19_1 : wc.cell? ⟨gb221, 1, none⟩ = some (.int .i64 a0_1) := (blk_cell BK221.out 1).trans rfl
            have hcz19_2 : wc.cell? ⟨gb221, 2, none⟩ = some (.int .i64 a0_2) := (blk_cell BK221.out 2).trans rfl
            have hcz19_3 : wc.cell? ⟨gb221, 3, none⟩ = some (.int .i64 a0_3) := (blk_cell BK221.out 3).trans rfl
            have hcz19_4 : wc.cell? ⟨gb221, 4, none⟩ = some (.int .i64 a0_4) := (blk_cell BK221.out 4).trans rfl
            have hcz19_5 : wc.cell? ⟨gb221, 5, none⟩ = some (.int .i64 a0_5) := (blk_cell BK221.out 5).trans rfl
            have hfz19_0 := blk_frozen BK221.out 0
            have hfz19_1 := blk_frozen BK221.out 1
            have hfz19_2 := blk_frozen BK221.out 2
            have hfz19_3 := blk_frozen BK221.out 3
            have hfz19_4 := blk_frozen BK221.out 4
            have hfz19_5 := blk_frozen BK221.out 5
            go_wp2_with (first | ((with_reducible refine gate_callee (f := 24) rfl ?_); refine goesL_ (some 42) rfl rfl Try.func24 (by kernel_rfl) rfl #[.bool (a1 == 3)] rfl (by (try simp only [List.map_toArray, List.map_cons, List.map_nil]); first | done | rfl | (simp only [List.length_drop, List.length_take]; rfl)) ?_; (with_reducible refine (r06_Zero.calls (a1 == 3) t226 _ A18.out).mono ?_); rintro e w' ⟨rfl, ⟨nd, rfl⟩⟩; refine ⟨_, rfl, ?_⟩))
            go_ret
            exact ⟨by first | rfl | (simp [errW_none, errW_some] <;> rfl) | (simp [*, errW_none, errW_some] <;> rfl), by repeat (first | (with_reducible first | exact HB.out | apply below_alloc | apply pw_below_drewN | apply below_drew1 | refine below_set ?_ GE221.out) | exact HB.out)⟩

/-! ### l06_PolicyVerdicts: function 5 -/
def l06_PolicyVerdicts.f (k : Nat) (a0_0 : Int) (a0_1 : Int) (a0_2 : Int) (a0_3 : Int) (a0_4 : Int) (a0_5 : Int) (a1_0 : Int) (a1_1 : Int) (a2 : Int) : Option (Bool) := (l06_awake.f k).bind fun t229 => ((policy_Verdict.f k a0_0 a0_1 a0_2 a0_3 a0_4 a0_5 a1_0 a1_1).bind fun bt230 => ((r06_Verdict.f k a0_0 a0_1 a0_2 a0_3 a0_4 a0_5 a1_0 a1_1).bind fun bt232 => ((policy_Nought.f a0_0 a0_1 a0_2 a0_3 a0_4 a0_5 a2).bind fun t234 => (if t229 = true then (if (bt230.2 == bt232.2) = true then ((r03_Alike.f bt230.1 bt232.1).bind fun t235 => (if t235 = true then ((r06_Nought.f k a0_0 a0_1 a0_2 a0_3 a0_4 a0_5 a2).bind fun t236 => ((r03_Alike.f t234 t236).bind fun t237 => (some t237))) else (none))) else (none)) else (none)))))
theorem l06_PolicyVerdicts.mono : ∀ a0 a1 a2 a3 a4 a5 a6 a7 a8 k, LeO (l06_PolicyVerdicts.f k a0 a1 a2 a3 a4 a5 a6 a7 a8) (l06_PolicyVerdicts.f (k + 1) a0 a1 a2 a3 a4 a5 a6 a7 a8) := by
  intro a0 a1 a2 a3 a4 a5 a6 a7 a8 k
  unfold l06_PolicyVerdicts.f
  repeat' first
      | (with_reducible exact policy_Verdict.mono _ _ _ _ _ _ _ _ _)
      | (with_reducible exact l06_awake.mono _)
      | (with_reducible exact r06_Nought.mono _ _ _ _ _ _ _ _)
      | (with_reducible exact r06_Verdict.mono _ _ _ _ _ _ _ _ _)
      | (with_reducible exact LeO.refl _)
      | (with_reducible exact LeO.none _)
      | (with_reducible refine LeO.ite ?_ ?_)
      | (with_reducible refine LeO.bind ?_ (fun _ => ?_))
      | exact policy_Verdict.mono _ _ _ _ _ _ _ _ _
      | exact l06_awake.mono _
      | exact r06_Nought.mono _ _ _ _ _ _ _ _
      | exact r06_Verdict.mono _ _ _ _ _ _ _ _ _
      | exact LeO.none _
      | refine LeO.ite ?_ ?_
      | refine LeO.bind ?_ (fun _ => ?_)
set_option maxHeartbeats 3000000 in
set_option maxRecDepth 100000 in
theorem l06_PolicyVerdicts.calls (k : Nat) (a0_0 : Int) (a0_1 : Int) (a0_2 : Int) (a0_3 : Int) (a0_4 : Int) (a0_5 : Int) (a1_0 : Int) (a1_1 : Int) (a2 : Int) (r : Bool) (w : World) (h : l06_PolicyVerdicts.f k a0_0 a0_1 a0_2 a0_3 a0_4 a0_5 a1_0 a1_1 a2 = some r) :
    Calls Try.prog 5 #[.agg #[.int .i64 a0_0, .int .i64 a0_1, .int .i64 a0_2, .int .i64 a0_3, .int .i64 a0_4, .int .i64 a0_5], .agg #[.int .i64 a1_0, .int .i64 a1_1], .int .i64 a2] w fun e w' => e = .returned (.bool r) ∧ Below w.heap.size w w' := by
  have hu30 := Try.underlying30
  have hu23 := Try.underlying23
  have HB := Aside0.mk (Below.refl w.heap.size w)
  have H : ((l06_awake.f k).bind fun t229 => ((policy_Verdict.f k a0_0 a0_1 a0_2 a0_3 a0_4 a0_5 a1_0 a1_1).bind fun bt230 => ((r06_Verdict.f k a0_0 a0_1 a0_2 a0_3 a0_4 a0_5 a1_0 a1_1).bind fun bt232 => ((policy_Nought.f a0_0 a0_1 a0_2 a0_3 a0_4 a0_5 a2).bind fun t234 => (if t229 = true then (if (bt230.2 == bt232.2) = true then ((r03_Alike.f bt230.1 bt232.1).bind fun t235 => (if t235 = true then ((r06_Nought.f k a0_0 a0_1 a0_2 a0_3 a0_4 a0_5 a2).bind fun t236 => ((r03_Alike.f t234 t236).bind fun t237 => (some t237))) else (none))) else (none)) else (none)))))) = some r := h
  clear h
  replace H := Option.bind_eq_some_iff.mp H
  obtain ⟨t229, A40, H⟩ := H
  replace H : ((policy_Verdict.f k a0_0 a0_1 a0_2 a0_3 a0_4 a0_5 a1_0 a1_1).bind fun bt230 => ((r06_Verdict.f k a0_0 a0_1 a0_2 a0_3 a0_4 a0_5 a1_0 a1_1).bind fun bt232 => ((policy_Nought.f a0_0 a0_1 a0_2 a0_3 a0_4 a0_5 a2).bind fun t234 => (if t229 = true then (if (bt230.2 == bt232.2) = true then ((r03_Alike.f bt230.1 bt232.1).bind fun t235 => (if t235 = true then ((r06_Nought.f k a0_0 a0_1 a0_2 a0_3 a0_4 a0_5 a2).bind fun t236 => ((r03_Alike.f t234 t236).bind fun t237 => (some t237))) else (none))) else (none)) else (none))))) = some r := H
  have A4 := Aside0.mk A40
  clear A40
  replace H := Option.bind_eq_some_iff.mp H
  obtain ⟨⟨t230, t231⟩, A50, H⟩ := H
  replace H : ((r06_Verdict.f k a0_0 a0_1 a0_2 a0_3 a0_4 a0_5 a1_0 a1_1).bind fun bt232 => ((policy_Nought.f a0_0 a0_1 a0_2 a0_3 a0_4 a0_5 a2).bind fun t234 => (if t229 = true then (if (t231 == bt232.2) = true then ((r03_Alike.f t230 bt232.1).bind fun t235 => (if t235 = true then ((r06_Nought.f k a0_0 a0_1 a0_2 a0_3 a0_4 a0_5 a2).bind fun t236 => ((r03_Alike.f t234 t236).bind fun t237 => (some t237))) else (none))) else (none)) else (none)))) = some r := H
  have A5 := Aside0.mk A50
  clear A50
  replace H := Option.bind_eq_some_iff.mp H
  obtain ⟨⟨t232, t233⟩, A60, H⟩ := H
  replace H : ((policy_Nought.f a0_0 a0_1 a0_2 a0_3 a0_4 a0_5 a2).bind fun t234 => (if t229 = true then (if (t231 == t233) = true then ((r03_Alike.f t230 t232).bind fun t235 => (if t235 = true then ((r06_Nought.f k a0_0 a0_1 a0_2 a0_3 a0_4 a0_5 a2).bind fun t236 => ((r03_Alike.f t234 t236).bind fun t237 => (some t237))) else (none))) else (none)) else (none))) = some r := H
  have A6 := Aside0.mk A60
  clear A60
  replace H := Option.bind_eq_some_iff.mp H
  obtain ⟨t234, A70, H⟩ := H
  replace H : (if t229 = true then (if (t231 == t233) = true then ((r03_Alike.f t230 t232).bind fun t235 => (if t235 = true then ((r06_Nought.f k a0_0 a0_1 a0_2 a0_3 a0_4 a0_5 a2).bind fun t236 => ((r03_Alike.f t234 t236).bind fun t237 => (some t237))) else (none))) else (none)) else (none)) = some r := H
  have A7 := Aside0.mk A70
  clear A70
  by_cases c8 : t229 = true
  · subst c8
    have H1 : (if (t231 == t233) = true then ((r03_Alike.f t230 t232).bind fun t235 => (if t235 = true then ((r06_Nought.f k a0_0 a0_1 a0_2 a0_3 a0_4 a0_5 a2).bind fun t236 => ((r03_Alike.f t234 t236).bind fun t237 => (some t237))) else (none))) else (none)) = some r := by rw [if_pos rfl] at H; exact H
    clear H
    have H := H1
    clear H1
    by_cases c9 : (t231 == t233) = true
    · rw [if_pos c9] at H
      have c9b0 : (t231 == t233) = true := c9
      (try (have c9b1 : decide (t231 = t233) = true := by simpa using c9))
      (try (have c9b2 : (t231 == t233) = true := by simpa using c9))
      clear c9
      replace H := Option.bind_eq_some_iff.mp H
      obtain ⟨t235, A100, H⟩ := H
      replace H : (if t235 = true then ((r06_Nought.f k a0_0 a0_1 a0_2 a0_3 a0_4 a0_5 a2).bind fun t236 => ((r03_Alike.f t234 t236).bind fun t237 => (some t237))) else (none)) = some r := H
      have A10 := Aside0.mk A100
      clear A100
      by_cases c11 : t235 = true
      · subst c11
        have H1 : ((r06_Nought.f k a0_0 a0_1 a0_2 a0_3 a0_4 a0_5 a2).bind fun t236 => ((r03_Alike.f t234 t236).bind fun t237 => (some t237))) = some r := by rw [if_pos rfl] at H; exact H
        clear H
        have H := H1
        clear H1
        replace H := Option.bind_eq_some_iff.mp H
        obtain ⟨t236, A120, H⟩ := H
        replace H : ((r03_Alike.f t234 t236).bind fun t237 => (some t237)) = some r := H
        have A12 := Aside0.mk A120
        clear A120
        replace H := Option.bind_eq_some_iff.mp H
        obtain ⟨t237, A130, H⟩ := H
        replace H : (some t237) = some r := H
        have A13 := Aside0.mk A130
        clear A130
        obtain rfl := Option.some.inj H
        go_enter Try.func5, Try.ntmps5
        go_wp2_with (first | ((with_reducible refine gate_dst (N := 3) rfl ?_); refine box_event ?hg (N := 3) ?hd (cs := #[.int .i64 a0_0, .int .i64 a0_1, .int .i64 a0_2, .int .i64 a0_3, .int .i64 a0_4, .int .i64 a0_5]) (t := 30) ?hr ?_; (case hd => rfl); (case hg => rfl); (case hr => first | (go_simp; done) | (go_simp; rfl)); intro gb227 hg w14 hbox hb; have n0_ := bs_ HB hb; have n1_ := Aside0.mk (hbox); have n2_ := ge_ HB hg; have n3_ := ge_ HB hg; clear HB; have HB := n0_; have BK227 := n1_; have GW227 := n2_; have GE227 := n3_; clear n0_ n1_ n2_ n3_; clear hb hbox hg) | ((with_reducible refine gate_dst (N := 4) rfl ?_); refine box_event ?hg (N := 4) ?hd (cs := #[.int .i64 a1_0, .int .i64 a1_1]) (t := 23) ?hr ?_; (case hd => rfl); (case hg => rfl); (case hr => first | (go_simp; done) | (go_simp; rfl)); intro gb228 hg w15 hbox hb; have n0_ := kb_ BK227 hb; have n1_ := bs_ HB hb; have n2_ := Aside0.mk (hbox); have n3_ := ge_ HB hg; have n4_ := ge_ HB hg; have n5_ := nlt_ BK227 hg; have n6_ := ngt_ BK227 hg; clear BK227; clear HB; have BK227 := n0_; have HB := n1_; have BK228 := n2_; have GW228 := n3_; have GE228 := n4_; have NB227_228 := n5_; have NB228_227 := n6_; clear n0_ n1_ n2_ n3_ n4_ n5_ n6_; clear hb hbox hg) | ((with_reducible refine gate_callee (f := 7) rfl ?_); refine goesL_ (some 13) rfl rfl Try.func7 (by kernel_rfl) rfl #[] rfl (by (try simp only [List.map_toArray, List.map_cons, List.map_nil]); first | done | rfl | (simp only [List.length_drop, List.length_take]; rfl)) ?_; (with_reducible refine (l06_awake.calls k  true _ A4.out).mono ?_); rintro e w16 ⟨rfl, hb⟩; refine ⟨_, rfl, ?_⟩; have n0_ := kb_ BK227 hb; have n1_ := kb_ BK228 hb; have n2_ := bs_ HB hb; clear BK227; clear BK228; clear HB; have BK227 := n0_; have BK228 := n1_; have HB := n2_; clear n0_ n1_ n2_; (try clear hb); (try clear hb2); (try clear hk); (try clear hi); have hnb17 := NB227_228.out; have hnc17 := NB228_227.out; have hcz18_0 : w16.cell? ⟨gb227, 0, none⟩ = some (.int .i64 a0_0) := (blk_cell BK227.out 0).trans rfl; have hcz18_1 : w16.cell? ⟨gb227, 1, none⟩ = some (.int .i64 a0_1) := (blk_cell BK227.out 1).trans rfl; have hcz18_2 : w16.cell? ⟨gb227, 2, none⟩ = some (.int .i64 a0_2) := (blk_cell BK227.out 2).trans rfl; have hcz18_3 : w16.cell? ⟨gb227, 3, none⟩ = some (.int .i64 a0_3) := (blk_cell BK227.out 3).trans rfl; have hcz18_4 : w16.cell? ⟨gb227, 4, none⟩ = some (.int .i64 a0_4) := (blk_cell BK227.out 4).trans rfl; have hcz18_5 : w16.cell? ⟨gb227, 5, none⟩ = some (.int .i64 a0_5) := (blk_cell BK227.out 5).trans rfl; have hfz18_0 := blk_frozen BK227.out 0; have hfz18_1 := blk_frozen BK227.out 1; have hfz18_2 := blk_frozen BK227.out 2; have hfz18_3 := blk_frozen BK227.out 3; have hfz18_4 := blk_frozen BK227.out 4; have hfz18_5 := blk_frozen BK227.out 5; have hcz19_0 : w16.cell? ⟨gb228, 0, none⟩ = some (.int .i64 a1_0) := (blk_cell BK228.out 0).trans rfl; have hcz19_1 : w16.cell? ⟨gb228, 1, none⟩ = some (.int .i64 a1_1) := (blk_cell BK228.out 1).trans rfl; have hfz19_0 := blk_frozen BK228.out 0; have hfz19_1 := blk_frozen BK228.out 1) | ((with_reducible refine gate_callee (f := 18) rfl ?_); refine goesL_ (some 17) rfl rfl Try.func18 (by kernel_rfl) rfl #[.agg #[.int .i64 a0_0, .int .i64 a0_1, .int .i64 a0_2, .int .i64 a0_3, .int .i64 a0_4, .int .i64 a0_5], .agg #[.int .i64 a1_0, .int .i64 a1_1]] rfl (by (try simp only [List.map_toArray, List.map_cons, List.map_nil]); first | done | rfl | (simp only [List.length_drop, List.length_take]; rfl)) ?_; (with_reducible refine (policy_Verdict.calls k a0_0 a0_1 a0_2 a0_3 a0_4 a0_5 a1_0 a1_1 t230 t231 _ A5.out).mono ?_); rintro e w20 ⟨rfl, hb⟩; refine ⟨_, rfl, ?_⟩; have n0_ := kb_ BK227 hb; have n1_ := kb_ BK228 hb; have n2_ := bs_ HB hb; clear BK227; clear BK228; clear HB; have BK227 := n0_; have BK228 := n1_; have HB := n2_; clear n0_ n1_ n2_; (try clear hb); (try clear hb2); (try clear hk); (try clear hi); have hcz21_0 : w20.cell? ⟨gb227, 0, none⟩ = some (.int .i64 a0_0) := (blk_cell BK227.out 0).trans rfl; have hcz21_1 : w20.cell? ⟨gb227, 1, none⟩ = some (.int .i64 a0_1) := (blk_cell BK227.out 1).trans rfl; have hcz21_2 : w20.cell? ⟨gb227, 2, none⟩ = some (.int .i64 a0_2) := (blk_cell BK227.out 2).trans rfl; have hcz21_3 : w20.cell? ⟨gb227, 3, none⟩ = some (.int .i64 a0_3) := (blk_cell BK227.out 3).trans rfl; have hcz21_4 : w20.cell? ⟨gb227, 4, none⟩ = some (.int .i64 a0_4) := (blk_cell BK227.out 4).trans rfl; have hcz21_5 : w20.cell? ⟨gb227, 5, none⟩ = some (.int .i64 a0_5) := (blk_cell BK227.out 5).trans rfl; have hfz21_0 := blk_frozen BK227.out 0; have hfz21_1 := blk_frozen BK227.out 1; have hfz21_2 := blk_frozen BK227.out 2; have hfz21_3 := blk_frozen BK227.out 3; have hfz21_4 := blk_frozen BK227.out 4; have hfz21_5 := blk_frozen BK227.out 5; have hcz22_0 : w20.cell? ⟨gb228, 0, none⟩ = some (.int .i64 a1_0) := (blk_cell BK228.out 0).trans rfl; have hcz22_1 : w20.cell? ⟨gb228, 1, none⟩ = some (.int .i64 a1_1) := (blk_cell BK228.out 1).trans rfl; have hfz22_0 := blk_frozen BK228.out 0; have hfz22_1 := blk_frozen BK228.out 1) | ((with_reducible refine gate_callee (f := 19) rfl ?_); refine goesL_ (some 23) rfl rfl Try.func19 (by kernel_rfl) rfl #[.agg #[.int .i64 a0_0, .int .i64 a0_1, .int .i64 a0_2, .int .i64 a0_3, .int .i64 a0_4, .int .i64 a0_5], .agg #[.int .i64 a1_0, .int .i64 a1_1]] rfl (by (try simp only [List.map_toArray, List.map_cons, List.map_nil]); first | done | rfl | (simp only [List.length_drop, List.length_take]; rfl)) ?_; (with_reducible refine (r06_Verdict.calls k a0_0 a0_1 a0_2 a0_3 a0_4 a0_5 a1_0 a1_1 t232 t233 _ A6.out).mono ?_); rintro e w23 ⟨rfl, hb⟩; refine ⟨_, rfl, ?_⟩; have n0_ := kb_ BK227 hb; have n1_ := kb_ BK228 hb; have n2_ := bs_ HB hb; clear BK227; clear BK228; clear HB; have BK227 := n0_; have BK228 := n1_; have HB := n2_; clear n0_ n1_ n2_; (try clear hb); (try clear hb2); (try clear hk); (try clear hi); have hcz24_0 : w23.cell? ⟨gb227, 0, none⟩ = some (.int .i64 a0_0) := (blk_cell BK227.out 0).trans rfl; have hcz24_1 : w23.cell? ⟨gb227, 1, none⟩ = some (.int .i64 a0_1) := (blk_cell BK227.out 1).trans rfl; have hcz24_2 : w23.cell? ⟨gb227, 2, none⟩ = some (.int .i64 a0_2) := (blk_cell BK227.out 2).trans rfl; have hcz24_3 : w23.cell? ⟨gb227, 3, none⟩ = some (.int .i64 a0_3) := (blk_cell BK227.out 3).trans rfl; have hcz24_4 : w23.cell? ⟨gb227, 4, none⟩ = some (.int .i64 a0_4) := (blk_cell BK227.out 4).trans rfl; have hcz24_5 : w23.cell? ⟨gb227, 5, none⟩ = some (.int .i64 a0_5) := (blk_cell BK227.out 5).trans rfl; have hfz24_0 := blk_frozen BK227.out 0; have hfz24_1 := blk_frozen BK227.out 1; have hfz24_2 := blk_frozen BK227.out 2; have hfz24_3 := blk_frozen BK227.out 3; have hfz24_4 := blk_frozen BK227.out 4; have hfz24_5 := blk_frozen BK227.out 5) | ((with_reducible refine gate_callee (f := 20) rfl ?_); refine goesL_ (some 28) rfl rfl Try.func20 (by kernel_rfl) rfl #[.agg #[.int .i64 a0_0, .int .i64 a0_1, .int .i64 a0_2, .int .i64 a0_3, .int .i64 a0_4, .int .i64 a0_5], .int .i64 a2] rfl (by (try simp only [List.map_toArray, List.map_cons, List.map_nil]); first | done | rfl | (simp only [List.length_drop, List.length_take]; rfl)) ?_; (with_reducible refine (policy_Nought.calls a0_0 a0_1 a0_2 a0_3 a0_4 a0_5 a2 t234 _ A7.out).mono ?_); rintro e w25 ⟨rfl, hb⟩; refine ⟨_, rfl, ?_⟩; have n0_ := kb_ BK227 hb; have n1_ := kb_ BK228 hb; have n2_ := bs_ HB hb; clear BK227; clear BK228; clear HB; have BK227 := n0_; have BK228 := n1_; have HB := n2_; clear n0_ n1_ n2_; (try clear hb); (try clear hb2); (try clear hk); (try clear hi)) | (go_at_call 21; (with_reducible refine (r03_Alike.calls t230 t232 true _ A10.out).mono ?_); rintro e w' ⟨rfl, ⟨nd, rfl⟩⟩; have hcz26_0 : w25.cell? ⟨gb227, 0, none⟩ = some (.int .i64 a0_0) := (blk_cell BK227.out 0).trans rfl; have hcz26_1 : w25.cell? ⟨gb227, 1, none⟩ = some (.int .i64 a0_1) := (blk_cell BK227.out 1).trans rfl; have hcz26_2 : w25.cell? ⟨gb227, 2, none⟩ = some (.int .i64 a0_2) := (blk_cell BK227.out 2).trans rfl; have hcz26_3 : w25.cell? ⟨gb227, 3, none⟩ = some (.int .i64 a0_3) := (blk_cell BK227.out 3).trans rfl; have hcz26_4 : w25.cell? ⟨gb227, 4, none⟩ = some (.int .i64 a0_4) := (blk_cell BK227.out 4).trans rfl; have hcz26_5 : w25.cell? ⟨gb227, 5, none⟩ = some (.int .i64 a0_5) := (blk_cell BK227.out 5).trans rfl; have hfz26_0 := blk_frozen BK227.out 0; have hfz26_1 := blk_frozen BK227.out 1; have hfz26_2 := blk_frozen BK227.out 2; have hfz26_3 := blk_frozen BK227.out 3; have hfz26_4 := blk_frozen BK227.out 4; have hfz26_5 := blk_frozen BK227.out 5) | (go_at_call 22; (with_reducible refine (r06_Nought.calls k a0_0 a0_1 a0_2 a0_3 a0_4 a0_5 a2 t236 _ A12.out).mono ?_); rintro e w27 ⟨rfl, hb⟩; have n0_ := kb_ BK227 hb; have n1_ := kb_ BK228 hb; have n2_ := bs_ HB hb; clear BK227; clear BK228; clear HB; have BK227 := n0_; have BK228 := n1_; have HB := n2_; clear n0_ n1_ n2_; (try clear hb); (try clear hb2); (try clear hk); (try clear hi)) | (go_at_call 21; (with_reducible refine (r03_Alike.calls t234 t236 t237 _ A13.out).mono ?_); rintro e w' ⟨rfl, ⟨nd, rfl⟩⟩))
        go_ret
        exact ⟨by first | rfl | (simp [errW_none, errW_some] <;> rfl) | (simp [*, errW_none, errW_some] <;> rfl), by repeat (first | (with_reducible first | exact HB.out | apply below_alloc | apply pw_below_drewN | apply below_drew1 | refine below_set ?_ GE227.out | refine below_set ?_ GE228.out) | exact HB.out)⟩
      · replace c11 := Bool.eq_false_iff.mpr c11
        subst c11
        have H1 : (none) = some r := by rw [if_neg (show ¬ (false = true) by decide)] at H; exact H
        clear H
        have H := H1
        clear H1
        exact absurd H (by simp)
    · rw [if_neg c9] at H
      exact absurd H (by simp)
  · replace c8 := Bool.eq_false_iff.mpr c8
    subst c8
    have H1 : (none) = some r := by rw [if_neg (show ¬ (false = true) by decide)] at H; exact H
    clear H
    have H := H1
    clear H1
    exact absurd H (by simp)

/-- THE ONE PURE STATEMENT of l06_PolicyVerdicts: yours. -/
def l06_PolicyVerdicts.Pure : Prop := ∀ (a0_0 : Int) (a0_1 : Int) (a0_2 : Int) (a0_3 : Int) (a0_4 : Int) (a0_5 : Int) (a1_0 : Int) (a1_1 : Int) (a2 : Int), (Lit.int .i64 a0_0).wf = true → (Lit.int .i64 a0_1).wf = true → (Lit.int .i64 a0_2).wf = true → (Lit.int .i64 a0_3).wf = true → (Lit.int .i64 a0_4).wf = true → (Lit.int .i64 a0_5).wf = true → (Lit.int .i64 a1_0).wf = true → (Lit.int .i64 a1_1).wf = true → (Lit.int .i64 a2).wf = true → ∃ k, l06_PolicyVerdicts.f k a0_0 a0_1 a0_2 a0_3 a0_4 a0_5 a1_0 a1_1 a2 = some true

end Go.Proofs.Ytkoonpjlpobmeaa.Pr
