-- written by this session's own program (wip/fprint.py), which widens the kit's print by floats
import Derived.Test.YtjkcgelemidapaaDoorPr0
import Derived.Test.YtjkcgelemidapaaDoorPr10
import Derived.Test.YtjkcgelemidapaaDoorPr11
import Derived.Test.YtjkcgelemidapaaDoorPr12
namespace Go.Proofs.YtjkcgelemidapaaDoor.Pr
open Go.RowKit Go.Proofs.YtjkcgelemidapaaDoorW.PrintWords Go.Proofs.YtjkcgelemidapaaDoorW.PrintLast Go.Proofs.YtjkcgelemidapaaDoorW.PrintMore
attribute [local go_sem] max2_int min2_int max_two min_two max_three min_three max_four min_four   -- for this text's walks alone
set_option linter.unusedVariables false
set_option linter.unusedSimpArgs false

/-! ### steelyardref01_Next: function 39 -/
mutual
def steelyardref01_Next.j0 : Nat → Nat → Bool → Bool → Int → Int → Int → Option (Nat)
  | 0, _, _, _, _, _, _ => none
  | k + 1, x0, x18, x301000, x301001, x301002, x301003 => if x18 = true then ((steelyardref01_Bits.f x0).bind fun t301 => ((steelyardref01_Of.f t301).bind fun t302 => (some t302))) else (if x301001 = 3 then ((steelyardref01_Make.f k true 9007199254740991 971).bind fun bt303 => (some bt303.1)) else (if x301001 = 0 then ((steelyardref01_Make.f k false 1 (-1074)).bind fun bt305 => (some bt305.1)) else (if x301000 = true then (if x301003 = 4503599627370496 then (steelyardref01_Next.j1 k (decide (x301002 > (-1074))) x301000 x301001 x301002 x301003) else (steelyardref01_Next.j1 k false x301000 x301001 x301002 x301003)) else (if (IntKind.u64.wrap (x301003 + 1)) = 9007199254740992 then (steelyardref01_Next.j2 k (x301002 == 971) x301000 x301001 x301002 x301003) else (steelyardref01_Next.j2 k false x301000 x301001 x301002 x301003)))))
def steelyardref01_Next.j1 : Nat → Bool → Bool → Int → Int → Int → Option (Nat)
  | 0, _, _, _, _, _ => none
  | k + 1, x61, x301000, x301001, x301002, x301003 => if x61 = true then ((steelyardref01_Make.f k true 9007199254740991 (wrap64 (x301002 - 1))).bind fun bt307 => (some bt307.1)) else ((steelyardref01_Make.f k true (IntKind.u64.wrap (x301003 - 1)) x301002).bind fun bt309 => (some bt309.1))
def steelyardref01_Next.j2 : Nat → Bool → Bool → Int → Int → Int → Option (Nat)
  | 0, _, _, _, _, _ => none
  | k + 1, x80, x301000, x301001, x301002, x301003 => if x80 = true then ((steelyardref01_Endless.f false).bind fun t311 => (some t311)) else (if (IntKind.u64.wrap (x301003 + 1)) = 9007199254740992 then ((steelyardref01_Make.f k false 4503599627370496 (wrap64 (x301002 + 1))).bind fun bt312 => (some bt312.1)) else ((steelyardref01_Make.f k false (IntKind.u64.wrap (x301003 + 1)) x301002).bind fun bt314 => (some bt314.1)))
end
def steelyardref01_Next.f (k : Nat) (a0 : Nat) : Option (Nat) := (steelyardref01_Split.f a0).bind fun bt296 => (if bt296.2.1 = 4 then (steelyardref01_Next.j0 k a0 (bt296.2.1 == 4) bt296.1 bt296.2.1 bt296.2.2.1 bt296.2.2.2) else (if bt296.2.1 = 3 then (steelyardref01_Next.j0 k a0 (!bt296.1) bt296.1 bt296.2.1 bt296.2.2.1 bt296.2.2.2) else (steelyardref01_Next.j0 k a0 false bt296.1 bt296.2.1 bt296.2.2.1 bt296.2.2.2)))
theorem steelyardref01_Next.mono_l : ∀ k, (∀ y0 y1 y2 y3 y4 y5, LeO (steelyardref01_Next.j0 k y0 y1 y2 y3 y4 y5) (steelyardref01_Next.j0 (k + 1) y0 y1 y2 y3 y4 y5)) ∧ (∀ y0 y1 y2 y3 y4, LeO (steelyardref01_Next.j1 k y0 y1 y2 y3 y4) (steelyardref01_Next.j1 (k + 1) y0 y1 y2 y3 y4)) ∧ (∀ y0 y1 y2 y3 y4, LeO (steelyardref01_Next.j2 k y0 y1 y2 y3 y4) (steelyardref01_Next.j2 (k + 1) y0 y1 y2 y3 y4))
  | 0 => ⟨fun _ _ _ _ _ _ r h => by simp [steelyardref01_Next.j0] at h, fun _ _ _ _ _ r h => by simp [steelyardref01_Next.j1] at h, fun _ _ _ _ _ r h => by simp [steelyardref01_Next.j2] at h⟩
  | k + 1 => by
    obtain ⟨ih0, ih1, ih2⟩ := steelyardref01_Next.mono_l k
    refine ⟨?_, ?_, ?_⟩
    · intro y0 y1 y2 y3 y4 y5
      unfold steelyardref01_Next.j0
      repeat' first
      | (with_reducible exact ih0 _ _ _ _ _ _)
      | (with_reducible exact ih1 _ _ _ _ _)
      | (with_reducible exact ih2 _ _ _ _ _)
      | (with_reducible exact steelyardref01_Make.mono _ _ _ _)
      | (with_reducible exact LeO.refl _)
      | (with_reducible exact LeO.none _)
      | (with_reducible refine LeO.ite ?_ ?_)
      | (with_reducible refine LeO.bind ?_ (fun _ => ?_))
      | exact ih0 _ _ _ _ _ _
      | exact ih1 _ _ _ _ _
      | exact ih2 _ _ _ _ _
      | exact steelyardref01_Make.mono _ _ _ _
      | exact LeO.none _
      | refine LeO.ite ?_ ?_
      | refine LeO.bind ?_ (fun _ => ?_)
    · intro y0 y1 y2 y3 y4
      unfold steelyardref01_Next.j1
      repeat' first
      | (with_reducible exact ih0 _ _ _ _ _ _)
      | (with_reducible exact ih1 _ _ _ _ _)
      | (with_reducible exact ih2 _ _ _ _ _)
      | (with_reducible exact steelyardref01_Make.mono _ _ _ _)
      | (with_reducible exact LeO.refl _)
      | (with_reducible exact LeO.none _)
      | (with_reducible refine LeO.ite ?_ ?_)
      | (with_reducible refine LeO.bind ?_ (fun _ => ?_))
      | exact ih0 _ _ _ _ _ _
      | exact ih1 _ _ _ _ _
      | exact ih2 _ _ _ _ _
      | exact steelyardref01_Make.mono _ _ _ _
      | exact LeO.none _
      | refine LeO.ite ?_ ?_
      | refine LeO.bind ?_ (fun _ => ?_)
    · intro y0 y1 y2 y3 y4
      unfold steelyardref01_Next.j2
      repeat' first
      | (with_reducible exact ih0 _ _ _ _ _ _)
      | (with_reducible exact ih1 _ _ _ _ _)
      | (with_reducible exact ih2 _ _ _ _ _)
      | (with_reducible exact steelyardref01_Make.mono _ _ _ _)
      | (with_reducible exact LeO.refl _)
      | (with_reducible exact LeO.none _)
      | (with_reducible refine LeO.ite ?_ ?_)
      | (with_reducible refine LeO.bind ?_ (fun _ => ?_))
      | exact ih0 _ _ _ _ _ _
      | exact ih1 _ _ _ _ _
      | exact ih2 _ _ _ _ _
      | exact steelyardref01_Make.mono _ _ _ _
      | exact LeO.none _
      | refine LeO.ite ?_ ?_
      | refine LeO.bind ?_ (fun _ => ?_)
theorem steelyardref01_Next.mono : ∀ a0 k, LeO (steelyardref01_Next.f k a0) (steelyardref01_Next.f (k + 1) a0) := by
  intro a0 k
  obtain ⟨ih0, ih1, ih2⟩ := steelyardref01_Next.mono_l k
  unfold steelyardref01_Next.f
  repeat' first
      | (with_reducible exact ih0 _ _ _ _ _ _)
      | (with_reducible exact ih1 _ _ _ _ _)
      | (with_reducible exact ih2 _ _ _ _ _)
      | (with_reducible exact steelyardref01_Make.mono _ _ _ _)
      | (with_reducible exact LeO.refl _)
      | (with_reducible exact LeO.none _)
      | (with_reducible refine LeO.ite ?_ ?_)
      | (with_reducible refine LeO.bind ?_ (fun _ => ?_))
      | exact ih0 _ _ _ _ _ _
      | exact ih1 _ _ _ _ _
      | exact ih2 _ _ _ _ _
      | exact steelyardref01_Make.mono _ _ _ _
      | exact LeO.none _
      | refine LeO.ite ?_ ?_
      | refine LeO.bind ?_ (fun _ => ?_)
set_option maxHeartbeats 3000000 in
set_option maxRecDepth 100000 in
theorem steelyardref01_Next.calls (k : Nat) (a0 : Nat) (r : Nat) (w : World) (h : steelyardref01_Next.f k a0 = some r) :
    Calls Tryd.prog 39 #[.float .f64 a0] w fun e w' => e = .returned (.float .f64 r) ∧ Below w.heap.size w w' := by
  have hu28 := Tryd.underlying28
  have HB := Aside0.mk (Below.refl w.heap.size w)
  have H : ((steelyardref01_Split.f a0).bind fun bt296 => (if bt296.2.1 = 4 then (steelyardref01_Next.j0 k a0 (bt296.2.1 == 4) bt296.1 bt296.2.1 bt296.2.2.1 bt296.2.2.2) else (if bt296.2.1 = 3 then (steelyardref01_Next.j0 k a0 (!bt296.1) bt296.1 bt296.2.1 bt296.2.2.1 bt296.2.2.2) else (steelyardref01_Next.j0 k a0 false bt296.1 bt296.2.1 bt296.2.2.1 bt296.2.2.2)))) = some r := h
  clear h
  replace H := Option.bind_eq_some_iff.mp H
  obtain ⟨⟨t296, t297, t298, t299⟩, A20, H⟩ := H
  replace H : (if t297 = 4 then (steelyardref01_Next.j0 k a0 (t297 == 4) t296 t297 t298 t299) else (if t297 = 3 then (steelyardref01_Next.j0 k a0 (!t296) t296 t297 t298 t299) else (steelyardref01_Next.j0 k a0 false t296 t297 t298 t299))) = some r := H
  have A2 := Aside0.mk A20
  clear A20
  have HC3 := Aside0.mk H
  clear H
  go_enter Tryd.func39, Tryd.ntmps39
  go_upto_if 18 with (first | ((with_reducible refine gate_callee (f := 28) rfl ?_); refine goesL_ (some 17) rfl rfl Tryd.func28 (by kernel_rfl) rfl #[.float .f64 a0] rfl (by (try simp only [List.map_toArray, List.map_cons, List.map_nil]); first | done | rfl | (simp only [List.length_drop, List.length_take]; rfl)) ?_; (with_reducible refine (steelyardref01_Split.calls a0 t296 t297 t298 t299 _ A2.out).mono ?_); rintro e w4 ⟨rfl, hb⟩; refine ⟨_, rfl, ?_⟩; have n0_ := bs_ HB hb; clear HB; have HB := n0_; clear n0_; (try clear hb); (try clear hb2); (try clear hk); (try clear hi)) | ((with_reducible refine gate_dst (N := 3) rfl ?_); refine box_event ?hg (N := 3) ?hd (cs := #[.bool false, .int .i64 0, .int .i64 0, .int .u64 0]) (t := 28) ?hr ?_; (case hd => rfl); (case hg => rfl); (case hr => first | (go_simp; done) | (go_simp; rfl)); intro gb300 hg w5 hbox hb; have n0_ := bs_ HB hb; have n1_ := Aside0.mk (hbox); have n2_ := ge_ HB hg; have n3_ := ge_ HB hg; clear HB; have HB := n0_; have BK300 := n1_; have GW300 := n2_; have GE300 := n3_; clear n0_ n1_ n2_ n3_; clear hb hbox hg; have hcz6_0 : w5.cell? ⟨gb300, 0, none⟩ = some (.bool false) := (blk_cell BK300.out 0).trans rfl; have hcz6_1 : w5.cell? ⟨gb300, 1, none⟩ = some (.int .i64 0) := (blk_cell BK300.out 1).trans rfl; have hcz6_2 : w5.cell? ⟨gb300, 2, none⟩ = some (.int .i64 0) := (blk_cell BK300.out 2).trans rfl; have hcz6_3 : w5.cell? ⟨gb300, 3, none⟩ = some (.int .u64 0) := (blk_cell BK300.out 3).trans rfl; have hfz6_0 := blk_frozen BK300.out 0; have hfz6_1 := blk_frozen BK300.out 1; have hfz6_2 := blk_frozen BK300.out 2; have hfz6_3 := blk_frozen BK300.out 3))
  (try simp only [Act.put, List.setIfInBounds_toArray, List.set_cons_zero, List.set_cons_succ])
  go_cut [18] (fun v18 wc => ∃ (kq : Nat) (x18_2 : Bool), v18 = .bool x18_2 ∧ Aside0 (steelyardref01_Next.j0 kq a0 x18_2 t296 t297 t298 t299 = some r) ∧ Aside0 (kq ≤ k) ∧ Aside0 (wc.heap[gb300]? = some (.cells #[.bool t296, .int .i64 t297, .int .i64 t298, .int .u64 t299] 28 (0, 0))) ∧ Aside0 (Below w.heap.size w wc))
  case first =>
    have H := HC3.out
    clear HC3
    by_cases c7 : t297 = 4
    · rw [if_pos c7] at H
      have c7b0 : (t297 == 4) = true := beq_iff_eq.mpr c7
      have c7b1 : (t297 != 4) = false := bne_eq_false_iff_eq.mpr c7
      clear c7
      (first | rw [c7b0] | (simp only [i64_w, i32_w]; rw [c7b0]) | skip)
      have H' := Aside0.mk H
      clear H
      go_wp2
      go_meet
      case rel => exact ⟨_, ((t297 == 4)), (by first | rfl | (simp; done) | (simp [*]; done)), H', ⟨by first | omega | exact Nat.le_refl _⟩, ⟨by (with_reducible repeat (first | refine blk_drewN ?_ _ | refine blk_drew ?_ | refine blk_alloc ?_ _)); refine blk_put (cs := #[.bool t296, .int .i64 t297, .int .i64 t298, .int .u64 0]) ?_ 3 _ rfl; (with_reducible repeat (first | refine blk_drewN ?_ _ | refine blk_drew ?_ | refine blk_alloc ?_ _)); refine blk_put (cs := #[.bool t296, .int .i64 t297, .int .i64 0, .int .u64 0]) ?_ 2 _ rfl; (with_reducible repeat (first | refine blk_drewN ?_ _ | refine blk_drew ?_ | refine blk_alloc ?_ _)); refine blk_put (cs := #[.bool t296, .int .i64 0, .int .i64 0, .int .u64 0]) ?_ 1 _ rfl; (with_reducible repeat (first | refine blk_drewN ?_ _ | refine blk_drew ?_ | refine blk_alloc ?_ _)); refine blk_put (cs := #[.bool false, .int .i64 0, .int .i64 0, .int .u64 0]) ?_ 0 _ rfl; (with_reducible repeat (first | refine blk_drewN ?_ _ | refine blk_drew ?_ | refine blk_alloc ?_ _)); exact BK300.out⟩, ⟨by repeat (first | (with_reducible first | exact HB.out | apply below_alloc | apply pw_below_drewN | apply below_drew1 | refine below_set ?_ GE300.out) | exact HB.out)⟩⟩
    · rw [if_neg c7] at H
      have c7b0 : (t297 == 4) = false := beq_eq_false_iff_ne.mpr c7
      have c7b1 : (t297 != 4) = true := bne_iff_ne.mpr c7
      (first | rw [c7b0] | (simp only [i64_w, i32_w]; rw [c7b0]) | skip)
      by_cases c8 : t297 = 3
      · rw [if_pos c8] at H
        have c8b0 : (t297 == 3) = true := beq_iff_eq.mpr c8
        have c8b1 : (t297 != 3) = false := bne_eq_false_iff_eq.mpr c8
        clear c8
        have H' := Aside0.mk H
        clear H
        have hcz9_0 : w5.cell? ⟨gb300, 0, none⟩ = some (.bool false) := (blk_cell BK300.out 0).trans rfl
        have hcz9_1 : w5.cell? ⟨gb300, 1, none⟩ = some (.int .i64 0) := (blk_cell BK300.out 1).trans rfl
        have hcz9_2 : w5.cell? ⟨gb300, 2, none⟩ = some (.int .i64 0) := (blk_cell BK300.out 2).trans rfl
        have hcz9_3 : w5.cell? ⟨gb300, 3, none⟩ = some (.int .u64 0) := (blk_cell BK300.out 3).trans rfl
        have hfz9_0 := blk_frozen BK300.out 0
        have hfz9_1 := blk_frozen BK300.out 1
        have hfz9_2 := blk_frozen BK300.out 2
        have hfz9_3 := blk_frozen BK300.out 3
        go_wp2
        go_meet
        case rel => exact ⟨_, (!t296), (by first | rfl | (simp; done) | (simp [*]; done)), H', ⟨by first | omega | exact Nat.le_refl _⟩, ⟨by (with_reducible repeat (first | refine blk_drewN ?_ _ | refine blk_drew ?_ | refine blk_alloc ?_ _)); refine blk_put (cs := #[.bool t296, .int .i64 t297, .int .i64 t298, .int .u64 0]) ?_ 3 _ rfl; (with_reducible repeat (first | refine blk_drewN ?_ _ | refine blk_drew ?_ | refine blk_alloc ?_ _)); refine blk_put (cs := #[.bool t296, .int .i64 t297, .int .i64 0, .int .u64 0]) ?_ 2 _ rfl; (with_reducible repeat (first | refine blk_drewN ?_ _ | refine blk_drew ?_ | refine blk_alloc ?_ _)); refine blk_put (cs := #[.bool t296, .int .i64 0, .int .i64 0, .int .u64 0]) ?_ 1 _ rfl; (with_reducible repeat (first | refine blk_drewN ?_ _ | refine blk_drew ?_ | refine blk_alloc ?_ _)); refine blk_put (cs := #[.bool false, .int .i64 0, .int .i64 0, .int .u64 0]) ?_ 0 _ rfl; (with_reducible repeat (first | refine blk_drewN ?_ _ | refine blk_drew ?_ | refine blk_alloc ?_ _)); exact BK300.out⟩, ⟨by repeat (first | (with_reducible first | exact HB.out | apply below_alloc | apply pw_below_drewN | apply below_drew1 | refine below_set ?_ GE300.out) | exact HB.out)⟩⟩
      · rw [if_neg c8] at H
        have c8b0 : (t297 == 3) = false := beq_eq_false_iff_ne.mpr c8
        have c8b1 : (t297 != 3) = true := bne_iff_ne.mpr c8
        have H' := Aside0.mk H
        clear H
        have hcz10_0 : w5.cell? ⟨gb300, 0, none⟩ = some (.bool false) := (blk_cell BK300.out 0).trans rfl
        have hcz10_1 : w5.cell? ⟨gb300, 1, none⟩ = some (.int .i64 0) := (blk_cell BK300.out 1).trans rfl
        have hcz10_2 : w5.cell? ⟨gb300, 2, none⟩ = some (.int .i64 0) := (blk_cell BK300.out 2).trans rfl
        have hcz10_3 : w5.cell? ⟨gb300, 3, none⟩ = some (.int .u64 0) := (blk_cell BK300.out 3).trans rfl
        have hfz10_0 := blk_frozen BK300.out 0
        have hfz10_1 := blk_frozen BK300.out 1
        have hfz10_2 := blk_frozen BK300.out 2
        have hfz10_3 := blk_frozen BK300.out 3
        go_wp2
        go_meet
        case rel => exact ⟨_, (false), (by first | rfl | (simp; done) | (simp [*]; done)), H', ⟨by first | omega | exact Nat.le_refl _⟩, ⟨by (with_reducible repeat (first | refine blk_drewN ?_ _ | refine blk_drew ?_ | refine blk_alloc ?_ _)); refine blk_put (cs := #[.bool t296, .int .i64 t297, .int .i64 t298, .int .u64 0]) ?_ 3 _ rfl; (with_reducible repeat (first | refine blk_drewN ?_ _ | refine blk_drew ?_ | refine blk_alloc ?_ _)); refine blk_put (cs := #[.bool t296, .int .i64 t297, .int .i64 0, .int .u64 0]) ?_ 2 _ rfl; (with_reducible repeat (first | refine blk_drewN ?_ _ | refine blk_drew ?_ | refine blk_alloc ?_ _)); refine blk_put (cs := #[.bool t296, .int .i64 0, .int .i64 0, .int .u64 0]) ?_ 1 _ rfl; (with_reducible repeat (first | refine blk_drewN ?_ _ | refine blk_drew ?_ | refine blk_alloc ?_ _)); refine blk_put (cs := #[.bool false, .int .i64 0, .int .i64 0, .int .u64 0]) ?_ 0 _ rfl; (with_reducible repeat (first | refine blk_drewN ?_ _ | refine blk_drew ?_ | refine blk_alloc ?_ _)); exact BK300.out⟩, ⟨by repeat (first | (with_reducible first | exact HB.out | apply below_alloc | apply pw_below_drewN | apply below_drew1 | refine below_set ?_ GE300.out) | exact HB.out)⟩⟩
  case rest =>
    clear HC3
    try clear c2
    try clear p2
    try clear c3
    try clear c7
    try clear c7b0
    try clear c7b1
    try clear c8
    try clear c8b0
    try clear c8b1
    try clear hcz10_0
    try clear hcz10_1
    try clear hcz10_2
    try clear hcz10_3
    try clear hcz6_0
    try clear hcz6_1
    try clear hcz6_2
    try clear hcz6_3
    try clear hcz9_0
    try clear hcz9_1
    try clear hcz9_2
    try clear hcz9_3
    try clear hfz10_0
    try clear hfz10_1
    try clear hfz10_2
    try clear hfz10_3
    try clear hfz6_0
    try clear hfz6_1
    try clear hfz6_2
    try clear hfz6_3
    try clear hfz9_0
    try clear hfz9_1
    try clear hfz9_2
    try clear hfz9_3
    obtain ⟨kq, x18_2, rfl, HA, HJ2, BK300, HB⟩ := hcut
    cases kq with
    | zero => exact absurd HA.out (by simp [steelyardref01_Next.j0])
    | succ kj2 =>
      have H := HA.out
      clear HA
      simp only [steelyardref01_Next.j0] at H
      by_cases c11 : x18_2 = true
      · subst c11
        have H1 : ((steelyardref01_Bits.f a0).bind fun t301 => ((steelyardref01_Of.f t301).bind fun t302 => (some t302))) = some r := by rw [if_pos rfl] at H; exact H
        clear H
        have H := H1
        clear H1
        replace H := Option.bind_eq_some_iff.mp H
        obtain ⟨t301, A120, H⟩ := H
        replace H : ((steelyardref01_Of.f t301).bind fun t302 => (some t302)) = some r := H
        have A12 := Aside0.mk A120
        clear A120
        replace H := Option.bind_eq_some_iff.mp H
        obtain ⟨t302, A130, H⟩ := H
        replace H : (some t302) = some r := H
        have A13 := Aside0.mk A130
        clear A130
        obtain rfl := Option.some.inj H
        go_wp2_with (first | ((with_reducible refine gate_callee (f := 61) rfl ?_); refine goesL_ (some 31) rfl rfl Tryd.func61 (by kernel_rfl) rfl #[.float .f64 a0] rfl (by (try simp only [List.map_toArray, List.map_cons, List.map_nil]); first | done | rfl | (simp only [List.length_drop, List.length_take]; rfl)) ?_; (with_reducible refine (steelyardref01_Bits.calls a0 t301 _ A12.out).mono ?_); rintro e w' ⟨rfl, ⟨nd, rfl⟩⟩; refine ⟨_, rfl, ?_⟩) | ((with_reducible refine gate_callee (f := 48) rfl ?_); refine goesL_ (some 32) rfl rfl Tryd.func48 (by kernel_rfl) rfl #[.int .u64 t301] rfl (by (try simp only [List.map_toArray, List.map_cons, List.map_nil]); first | done | rfl | (simp only [List.length_drop, List.length_take]; rfl)) ?_; (with_reducible refine (steelyardref01_Of.calls t301 t302 _ A13.out).mono ?_); rintro e w' ⟨rfl, ⟨nd, rfl⟩⟩; refine ⟨_, rfl, ?_⟩))
        go_ret
        exact ⟨by first | rfl | (simp [errW_none, errW_some] <;> rfl) | (simp [*, errW_none, errW_some] <;> rfl), by repeat (first | (with_reducible first | exact HB.out | apply below_alloc | apply pw_below_drewN | apply below_drew1 | refine below_set ?_ GE300.out) | exact HB.out)⟩
      · replace c11 := Bool.eq_false_iff.mpr c11
        subst c11
        have H1 : (if t297 = 3 then ((steelyardref01_Make.f kj2 true 9007199254740991 971).bind fun bt303 => (some bt303.1)) else (if t297 = 0 then ((steelyardref01_Make.f kj2 false 1 (-1074)).bind fun bt305 => (some bt305.1)) else (if t296 = true then (if t299 = 4503599627370496 then (steelyardref01_Next.j1 kj2 (decide (t298 > (-1074))) t296 t297 t298 t299) else (steelyardref01_Next.j1 kj2 false t296 t297 t298 t299)) else (if (IntKind.u64.wrap (t299 + 1)) = 9007199254740992 then (steelyardref01_Next.j2 kj2 (t298 == 971) t296 t297 t298 t299) else (steelyardref01_Next.j2 kj2 false t296 t297 t298 t299))))) = some r := by rw [if_neg (show ¬ (false = true) by decide)] at H; exact H
        clear H
        have H := H1
        clear H1
        by_cases c14 : t297 = 3
        · rw [if_pos c14] at H
          have c14b0 : (t297 == 3) = true := beq_iff_eq.mpr c14
          have c14b1 : (t297 != 3) = false := bne_eq_false_iff_eq.mpr c14
          clear c14
          replace H := Option.bind_eq_some_iff.mp H
          obtain ⟨⟨t303, t304⟩, A150, H⟩ := H
          replace H : (some t303) = some r := H
          have A15 := Aside0.mk A150
          clear A150
          obtain rfl := Option.some.inj H
          have hcz16_0 : wc.cell? ⟨gb300, 0, none⟩ = some (.bool t296) := (blk_cell BK300.out 0).trans rfl
          have hcz16_1 : wc.cell? ⟨gb300, 1, none⟩ = some (.int .i64 t297) := (blk_cell BK300.out 1).trans rfl
          have hcz16_2 : wc.cell? ⟨gb300, 2, none⟩ = some (.int .i64 t298) := (blk_cell BK300.out 2).trans rfl
          have hcz16_3 : wc.cell? ⟨gb300, 3, none⟩ = some (.int .u64 t299) := (blk_cell BK300.out 3).trans rfl
          have hfz16_0 := blk_frozen BK300.out 0
          have hfz16_1 := blk_frozen BK300.out 1
          have hfz16_2 := blk_frozen BK300.out 2
          have hfz16_3 := blk_frozen BK300.out 3
          go_wp2_with (first | ((with_reducible refine gate_callee (f := 49) rfl ?_); refine goesL_ (some 38) rfl rfl Tryd.func49 (by kernel_rfl) rfl #[.bool true, .int .u64 9007199254740991, .int .i64 971] rfl (by (try simp only [List.map_toArray, List.map_cons, List.map_nil]); first | done | rfl | (simp only [List.length_drop, List.length_take]; rfl)) ?_; (with_reducible refine (steelyardref01_Make.calls kj2 true 9007199254740991 971 t303 t304 _ A15.out).mono ?_); rintro e w' ⟨rfl, ⟨nd, rfl⟩⟩; refine ⟨_, rfl, ?_⟩))
          go_ret
          exact ⟨by first | rfl | (simp [errW_none, errW_some] <;> rfl) | (simp [*, errW_none, errW_some] <;> rfl), by repeat (first | (with_reducible first | exact HB.out | apply below_alloc | apply pw_below_drewN | apply below_drew1 | refine below_set ?_ GE300.out) | exact HB.out)⟩
        · rw [if_neg c14] at H
          have c14b0 : (t297 == 3) = false := beq_eq_false_iff_ne.mpr c14
          have c14b1 : (t297 != 3) = true := bne_iff_ne.mpr c14
          by_cases c17 : t297 = 0
          · rw [if_pos c17] at H
            have c17b0 : (t297 == 0) = true := beq_iff_eq.mpr c17
            have c17b1 : (t297 != 0) = false := bne_eq_false_iff_eq.mpr c17
            clear c17
            replace H := Option.bind_eq_some_iff.mp H
            obtain ⟨⟨t305, t306⟩, A180, H⟩ := H
            replace H : (some t305) = some r := H
            have A18 := Aside0.mk A180
            clear A180
            obtain rfl := Option.some.inj H
            have hcz19_0 : wc.cell? ⟨gb300, 0, none⟩ = some (.bool t296) := (blk_cell BK300.out 0).trans rfl
            have hcz19_1 : wc.cell? ⟨gb300, 1, none⟩ = some (.int .i64 t297) := (blk_cell BK300.out 1).trans rfl
            have hcz19_2 : wc.cell? ⟨gb300, 2, none⟩ = some (.int .i64 t298) := (blk_cell BK300.out 2).trans rfl
            have hcz19_3 : wc.cell? ⟨gb300, 3, none⟩ = some (.int .u64 t299) := (blk_cell BK300.out 3).trans rfl
            have hfz19_0 := blk_frozen BK300.out 0
            have hfz19_1 := blk_frozen BK300.out 1
            have hfz19_2 := blk_frozen BK300.out 2
            have hfz19_3 := blk_frozen BK300.out 3
            go_wp2_with (first | ((with_reducible refine gate_callee (f := 49) rfl ?_); refine goesL_ (some 47) rfl rfl Tryd.func49 (by kernel_rfl) rfl #[.bool false, .int .u64 1, .int .i64 (-1074)] rfl (by (try simp only [List.map_toArray, List.map_cons, List.map_nil]); first | done | rfl | (simp only [List.length_drop, List.length_take]; rfl)) ?_; (with_reducible refine (steelyardref01_Make.calls kj2 false 1 (-1074) t305 t306 _ A18.out).mono ?_); rintro e w' ⟨rfl, ⟨nd, rfl⟩⟩; refine ⟨_, rfl, ?_⟩))
            go_ret
            exact ⟨by first | rfl | (simp [errW_none, errW_some] <;> rfl) | (simp [*, errW_none, errW_some] <;> rfl), by repeat (first | (with_reducible first | exact HB.out | apply below_alloc | apply pw_below_drewN | apply below_drew1 | refine below_set ?_ GE300.out) | exact HB.out)⟩
          · rw [if_neg c17] at H
            have c17b0 : (t297 == 0) = false := beq_eq_false_iff_ne.mpr c17
            have c17b1 : (t297 != 0) = true := bne_iff_ne.mpr c17
            by_cases c20 : t296 = true
            · subst c20
              have H1 : (if t299 = 4503599627370496 then (steelyardref01_Next.j1 kj2 (decide (t298 > (-1074))) true t297 t298 t299) else (steelyardref01_Next.j1 kj2 false true t297 t298 t299)) = some r := by rw [if_pos rfl] at H; exact H
              clear H
              have H := H1
              clear H1
              have HC21 := Aside0.mk H
              clear H
              have hcz22_0 : wc.cell? ⟨gb300, 0, none⟩ = some (.bool true) := (blk_cell BK300.out 0).trans rfl
              have hcz22_1 : wc.cell? ⟨gb300, 1, none⟩ = some (.int .i64 t297) := (blk_cell BK300.out 1).trans rfl
              have hcz22_2 : wc.cell? ⟨gb300, 2, none⟩ = some (.int .i64 t298) := (blk_cell BK300.out 2).trans rfl
              have hcz22_3 : wc.cell? ⟨gb300, 3, none⟩ = some (.int .u64 t299) := (blk_cell BK300.out 3).trans rfl
              have hfz22_0 := blk_frozen BK300.out 0
              have hfz22_1 := blk_frozen BK300.out 1
              have hfz22_2 := blk_frozen BK300.out 2
              have hfz22_3 := blk_frozen BK300.out 3
              go_upto_region 12 with (fail)
              go_cut [61] (fun v61 wc => ∃ (kq : Nat) (x61_20 : Bool), v61 = .bool x61_20 ∧ Aside0 (steelyardref01_Next.j1 kq x61_20 true t297 t298 t299 = some r) ∧ Aside0 (kq ≤ kj2) ∧ Aside0 (wc.heap[gb300]? = some (.cells #[.bool true, .int .i64 t297, .int .i64 t298, .int .u64 t299] 28 (0, 0))) ∧ Aside0 (Below w.heap.size w wc))
              case first =>
                have H := HC21.out
                clear HC21
                by_cases c23 : t299 = 4503599627370496
                · rw [if_pos c23] at H
                  have c23b0 : (t299 == 4503599627370496) = true := beq_iff_eq.mpr c23
                  have c23b1 : (t299 != 4503599627370496) = false := bne_eq_false_iff_eq.mpr c23
                  clear c23
                  (first | rw [c23b0] | (simp only [i64_w, i32_w]; rw [c23b0]) | skip)
                  have H' := Aside0.mk H
                  clear H
                  have hcz24_0 : wc.cell? ⟨gb300, 0, none⟩ = some (.bool true) := (blk_cell BK300.out 0).trans rfl
                  have hcz24_1 : wc.cell? ⟨gb300, 1, none⟩ = some (.int .i64 t297) := (blk_cell BK300.out 1).trans rfl
                  have hcz24_2 : wc.cell? ⟨gb300, 2, none⟩ = some (.int .i64 t298) := (blk_cell BK300.out 2).trans rfl
                  have hcz24_3 : wc.cell? ⟨gb300, 3, none⟩ = some (.int .u64 t299) := (blk_cell BK300.out 3).trans rfl
                  have hfz24_0 := blk_frozen BK300.out 0
                  have hfz24_1 := blk_frozen BK300.out 1
                  have hfz24_2 := blk_frozen BK300.out 2
                  have hfz24_3 := blk_frozen BK300.out 3
                  go_wp2
                  go_meet
                  case rel => exact ⟨_, (decide (t298 > (-1074))), (by first | rfl | (simp; done) | (simp [*]; done)), H', ⟨by have := HJ2.out; first | omega | exact Nat.le_refl _⟩, ⟨by (with_reducible repeat (first | refine blk_drewN ?_ _ | refine blk_drew ?_ | refine blk_alloc ?_ _)); exact BK300.out⟩, ⟨by repeat (first | (with_reducible first | exact HB.out | apply below_alloc | apply pw_below_drewN | apply below_drew1 | refine below_set ?_ GE300.out) | exact HB.out)⟩⟩
                · rw [if_neg c23] at H
                  have c23b0 : (t299 == 4503599627370496) = false := beq_eq_false_iff_ne.mpr c23
                  have c23b1 : (t299 != 4503599627370496) = true := bne_iff_ne.mpr c23
                  (first | rw [c23b0] | (simp only [i64_w, i32_w]; rw [c23b0]) | skip)
                  have H' := Aside0.mk H
                  clear H
                  have hcz25_0 : wc.cell? ⟨gb300, 0, none⟩ = some (.bool true) := (blk_cell BK300.out 0).trans rfl
                  have hcz25_1 : wc.cell? ⟨gb300, 1, none⟩ = some (.int .i64 t297) := (blk_cell BK300.out 1).trans rfl
                  have hcz25_2 : wc.cell? ⟨gb300, 2, none⟩ = some (.int .i64 t298) := (blk_cell BK300.out 2).trans rfl
                  have hcz25_3 : wc.cell? ⟨gb300, 3, none⟩ = some (.int .u64 t299) := (blk_cell BK300.out 3).trans rfl
                  have hfz25_0 := blk_frozen BK300.out 0
                  have hfz25_1 := blk_frozen BK300.out 1
                  have hfz25_2 := blk_frozen BK300.out 2
                  have hfz25_3 := blk_frozen BK300.out 3
                  go_wp2
                  go_meet
                  case rel => exact ⟨_, (false), (by first | rfl | (simp; done) | (simp [*]; done)), H', ⟨by have := HJ2.out; first | omega | exact Nat.le_refl _⟩, ⟨by (with_reducible repeat (first | refine blk_drewN ?_ _ | refine blk_drew ?_ | refine blk_alloc ?_ _)); exact BK300.out⟩, ⟨by repeat (first | (with_reducible first | exact HB.out | apply below_alloc | apply pw_below_drewN | apply below_drew1 | refine below_set ?_ GE300.out) | exact HB.out)⟩⟩
              case rest =>
                clear HC21
                try clear c1
                try clear c2
                try clear p2
                try clear c3
                try clear c4
                try clear c6
                try clear c7
                try clear c7b0
                try clear c7b1
                try clear c8
                try clear c8b0
                try clear c8b1
                try clear c11
                try clear c14
                try clear c14b0
                try clear c14b1
                try clear c17
                try clear c17b0
                try clear c17b1
                try clear c20
                try clear c23
                try clear c23b0
                try clear c23b1
                try clear hcz10_0
                try clear hcz10_1
                try clear hcz10_2
                try clear hcz10_3
                try clear hcz16_0
                try clear hcz16_1
                try clear hcz16_2
                try clear hcz16_3
                try clear hcz19_0
                try clear hcz19_1
                try clear hcz19_2
                try clear hcz19_3
                try clear hcz22_0
                try clear hcz22_1
                try clear hcz22_2
                try clear hcz22_3
                try clear hcz24_0
                try clear hcz24_1
                try clear hcz24_2
                try clear hcz24_3
                try clear hcz25_0
                try clear hcz25_1
                try clear hcz25_2
                try clear hcz25_3
                try clear hcz6_0
                try clear hcz6_1
                try clear hcz6_2
                try clear hcz6_3
                try clear hcz9_0
                try clear hcz9_1
                try clear hcz9_2
                try clear hcz9_3
                try clear hfz10_0
                try clear hfz10_1
                try clear hfz10_2
                try clear hfz10_3
                try clear hfz16_0
                try clear hfz16_1
                try clear hfz16_2
                try clear hfz16_3
                try clear hfz19_0
                try clear hfz19_1
                try clear hfz19_2
                try clear hfz19_3
                try clear hfz22_0
                try clear hfz22_1
                try clear hfz22_2
                try clear hfz22_3
                try clear hfz24_0
                try clear hfz24_1
                try clear hfz24_2
                try clear hfz24_3
                try clear hfz25_0
                try clear hfz25_1
                try clear hfz25_2
                try clear hfz25_3
                try clear hfz6_0
                try clear hfz6_1
                try clear hfz6_2
                try clear hfz6_3
                try clear hfz9_0
                try clear hfz9_1
                try clear hfz9_2
                try clear hfz9_3
                try clear p2
                obtain ⟨kq, x61_20, rfl, HA, HJ20, BK300, HB⟩ := hcut
                cases kq with
                | zero => exact absurd HA.out (by simp [steelyardref01_Next.j1])
                | succ kj20 =>
                  have H := HA.out
                  clear HA
                  simp only [steelyardref01_Next.j1] at H
                  by_cases c26 : x61_20 = true
                  · subst c26
                    have H1 : ((steelyardref01_Make.f kj20 true 9007199254740991 (wrap64 (t298 - 1))).bind fun bt307 => (some bt307.1)) = some r := by rw [if_pos rfl] at H; exact H
                    clear H
                    have H := H1
                    clear H1
                    replace H := Option.bind_eq_some_iff.mp H
                    obtain ⟨⟨t307, t308⟩, A270, H⟩ := H
                    replace H : (some t307) = some r := H
                    have A27 := Aside0.mk A270
                    clear A270
                    obtain rfl := Option.some.inj H
                    have hcz28_0 : wc.cell? ⟨gb300, 0, none⟩ = some (.bool true) := (blk_cell BK300.out 0).trans rfl
                    have hcz28_1 : wc.cell? ⟨gb300, 1, none⟩ = some (.int .i64 t297) := (blk_cell BK300.out 1).trans rfl
                    have hcz28_2 : wc.cell? ⟨gb300, 2, none⟩ = some (.int .i64 t298) := (blk_cell BK300.out 2).trans rfl
                    have hcz28_3 : wc.cell? ⟨gb300, 3, none⟩ = some (.int .u64 t299) := (blk_cell BK300.out 3).trans rfl
                    have hfz28_0 := blk_frozen BK300.out 0
                    have hfz28_1 := blk_frozen BK300.out 1
                    have hfz28_2 := blk_frozen BK300.out 2
                    have hfz28_3 := blk_frozen BK300.out 3
                    go_wp2_with (first | ((with_reducible refine gate_callee (f := 49) rfl ?_); refine goesL_ (some 66) rfl rfl Tryd.func49 (by kernel_rfl) rfl #[.bool true, .int .u64 9007199254740991, .int .i64 (wrap64 (t298 - 1))] rfl (by (try simp only [List.map_toArray, List.map_cons, List.map_nil]); first | done | rfl | (simp only [List.length_drop, List.length_take]; rfl)) ?_; (with_reducible refine (steelyardref01_Make.calls kj20 true 9007199254740991 (wrap64 (t298 - 1)) t307 t308 _ A27.out).mono ?_); rintro e w' ⟨rfl, ⟨nd, rfl⟩⟩; refine ⟨_, rfl, ?_⟩))
                    go_ret
                    exact ⟨by first | rfl | (simp [errW_none, errW_some] <;> rfl) | (simp [*, errW_none, errW_some] <;> rfl), by repeat (first | (with_reducible first | exact HB.out | apply below_alloc | apply pw_below_drewN | apply below_drew1 | refine below_set ?_ GE300.out) | exact HB.out)⟩
                  · replace c26 := Bool.eq_false_iff.mpr c26
                    subst c26
                    have H1 : ((steelyardref01_Make.f kj20 true (IntKind.u64.wrap (t299 - 1)) t298).bind fun bt309 => (some bt309.1)) = some r := by rw [if_neg (show ¬ (false = true) by decide)] at H; exact H
                    clear H
                    have H := H1
                    clear H1
                    replace H := Option.bind_eq_some_iff.mp H
                    obtain ⟨⟨t309, t310⟩, A290, H⟩ := H
                    replace H : (some t309) = some r := H
                    have A29 := Aside0.mk A290
                    clear A290
                    obtain rfl := Option.some.inj H
                    have hcz30_0 : wc.cell? ⟨gb300, 0, none⟩ = some (.bool true) := (blk_cell BK300.out 0).trans rfl
                    have hcz30_1 : wc.cell? ⟨gb300, 1, none⟩ = some (.int .i64 t297) := (blk_cell BK300.out 1).trans rfl
                    have hcz30_2 : wc.cell? ⟨gb300, 2, none⟩ = some (.int .i64 t298) := (blk_cell BK300.out 2).trans rfl
                    have hcz30_3 : wc.cell? ⟨gb300, 3, none⟩ = some (.int .u64 t299) := (blk_cell BK300.out 3).trans rfl
                    have hfz30_0 := blk_frozen BK300.out 0
                    have hfz30_1 := blk_frozen BK300.out 1
                    have hfz30_2 := blk_frozen BK300.out 2
                    have hfz30_3 := blk_frozen BK300.out 3
                    go_wp2_with (first | ((with_reducible refine gate_callee (f := 49) rfl ?_); refine goesL_ (some 76) rfl rfl Tryd.func49 (by kernel_rfl) rfl #[.bool true, .int .u64 (IntKind.u64.wrap (t299 - 1)), .int .i64 t298] rfl (by (try simp only [List.map_toArray, List.map_cons, List.map_nil]); first | done | rfl | (simp only [List.length_drop, List.length_take]; rfl)) ?_; (with_reducible refine (steelyardref01_Make.calls kj20 true (IntKind.u64.wrap (t299 - 1)) t298 t309 t310 _ A29.out).mono ?_); rintro e w' ⟨rfl, ⟨nd, rfl⟩⟩; refine ⟨_, rfl, ?_⟩))
                    go_ret
                    exact ⟨by first | rfl | (simp [errW_none, errW_some] <;> rfl) | (simp [*, errW_none, errW_some] <;> rfl), by repeat (first | (with_reducible first | exact HB.out | apply below_alloc | apply pw_below_drewN | apply below_drew1 | refine below_set ?_ GE300.out) | exact HB.out)⟩
            · replace c20 := Bool.eq_false_iff.mpr c20
              subst c20
              have H1 : (if (IntKind.u64.wrap (t299 + 1)) = 9007199254740992 then (steelyardref01_Next.j2 kj2 (t298 == 971) false t297 t298 t299) else (steelyardref01_Next.j2 kj2 false false t297 t298 t299)) = some r := by rw [if_neg (show ¬ (false = true) by decide)] at H; exact H
              clear H
              have H := H1
              clear H1
              have HC31 := Aside0.mk H
              clear H
              have hcz32_0 : wc.cell? ⟨gb300, 0, none⟩ = some (.bool false) := (blk_cell BK300.out 0).trans rfl
              have hcz32_1 : wc.cell? ⟨gb300, 1, none⟩ = some (.int .i64 t297) := (blk_cell BK300.out 1).trans rfl
              have hcz32_2 : wc.cell? ⟨gb300, 2, none⟩ = some (.int .i64 t298) := (blk_cell BK300.out 2).trans rfl
              have hcz32_3 : wc.cell? ⟨gb300, 3, none⟩ = some (.int .u64 t299) := (blk_cell BK300.out 3).trans rfl
              have hfz32_0 := blk_frozen BK300.out 0
              have hfz32_1 := blk_frozen BK300.out 1
              have hfz32_2 := blk_frozen BK300.out 2
              have hfz32_3 := blk_frozen BK300.out 3
              go_upto_region 17 with (fail)
              go_cut [80] (fun v80 wc => ∃ (kq : Nat) (x80_30 : Bool), v80 = .bool x80_30 ∧ Aside0 (steelyardref01_Next.j2 kq x80_30 false t297 t298 t299 = some r) ∧ Aside0 (kq ≤ kj2) ∧ Aside0 (wc.heap[gb300]? = some (.cells #[.bool false, .int .i64 t297, .int .i64 t298, .int .u64 t299] 28 (0, 0))) ∧ Aside0 (Below w.heap.size w wc))
              case first =>
                have H := HC31.out
                clear HC31
                by_cases c33 : (IntKind.u64.wrap (t299 + 1)) = 9007199254740992
                · rw [if_pos c33] at H
                  have c33b0 : ((IntKind.u64.wrap (t299 + 1)) == 9007199254740992) = true := beq_iff_eq.mpr c33
                  have c33b1 : ((IntKind.u64.wrap (t299 + 1)) != 9007199254740992) = false := bne_eq_false_iff_eq.mpr c33
                  clear c33
                  (first | rw [c33b0] | (simp only [i64_w, i32_w]; rw [c33b0]) | skip)
                  have H' := Aside0.mk H
                  clear H
                  have hcz34_0 : wc.cell? ⟨gb300, 0, none⟩ = some (.bool false) := (blk_cell BK300.out 0).trans rfl
                  have hcz34_1 : wc.cell? ⟨gb300, 1, none⟩ = some (.int .i64 t297) := (blk_cell BK300.out 1).trans rfl
                  have hcz34_2 : wc.cell? ⟨gb300, 2, none⟩ = some (.int .i64 t298) := (blk_cell BK300.out 2).trans rfl
                  have hcz34_3 : wc.cell? ⟨gb300, 3, none⟩ = some (.int .u64 t299) := (blk_cell BK300.out 3).trans rfl
                  have hfz34_0 := blk_frozen BK300.out 0
                  have hfz34_1 := blk_frozen BK300.out 1
                  have hfz34_2 := blk_frozen BK300.out 2
                  have hfz34_3 := blk_frozen BK300.out 3
                  go_wp2
                  go_meet
                  case rel => exact ⟨_, ((t298 == 971)), (by first | rfl | (simp; done) | (simp [*]; done)), H', ⟨by have := HJ2.out; first | omega | exact Nat.le_refl _⟩, ⟨by (with_reducible repeat (first | refine blk_drewN ?_ _ | refine blk_drew ?_ | refine blk_alloc ?_ _)); exact BK300.out⟩, ⟨by repeat (first | (with_reducible first | exact HB.out | apply below_alloc | apply pw_below_drewN | apply below_drew1 | refine below_set ?_ GE300.out) | exact HB.out)⟩⟩
                · rw [if_neg c33] at H
                  have c33b0 : ((IntKind.u64.wrap (t299 + 1)) == 9007199254740992) = false := beq_eq_false_iff_ne.mpr c33
                  have c33b1 : ((IntKind.u64.wrap (t299 + 1)) != 9007199254740992) = true := bne_iff_ne.mpr c33
                  (first | rw [c33b0] | (simp only [i64_w, i32_w]; rw [c33b0]) | skip)
                  have H' := Aside0.mk H
                  clear H
                  have hcz35_0 : wc.cell? ⟨gb300, 0, none⟩ = some (.bool false) := (blk_cell BK300.out 0).trans rfl
                  have hcz35_1 : wc.cell? ⟨gb300, 1, none⟩ = some (.int .i64 t297) := (blk_cell BK300.out 1).trans rfl
                  have hcz35_2 : wc.cell? ⟨gb300, 2, none⟩ = some (.int .i64 t298) := (blk_cell BK300.out 2).trans rfl
                  have hcz35_3 : wc.cell? ⟨gb300, 3, none⟩ = some (.int .u64 t299) := (blk_cell BK300.out 3).trans rfl
                  have hfz35_0 := blk_frozen BK300.out 0
                  have hfz35_1 := blk_frozen BK300.out 1
                  have hfz35_2 := blk_frozen BK300.out 2
                  have hfz35_3 := blk_frozen BK300.out 3
                  go_wp2
                  go_meet
                  case rel => exact ⟨_, (false), (by first | rfl | (simp; done) | (simp [*]; done)), H', ⟨by have := HJ2.out; first | omega | exact Nat.le_refl _⟩, ⟨by (with_reducible repeat (first | refine blk_drewN ?_ _ | refine blk_drew ?_ | refine blk_alloc ?_ _)); exact BK300.out⟩, ⟨by repeat (first | (with_reducible first | exact HB.out | apply below_alloc | apply pw_below_drewN | apply below_drew1 | refine below_set ?_ GE300.out) | exact HB.out)⟩⟩
              case rest =>
                clear HC31
                try clear c1
                try clear c2
                try clear p2
                try clear c3
                try clear c4
                try clear c6
                try clear p6
                try clear c7
                try clear c7b0
                try clear c7b1
                try clear c8
                try clear c8b0
                try clear c8b1
                try clear c11
                try clear c14
                try clear c14b0
                try clear c14b1
                try clear c17
                try clear c17b0
                try clear c17b1
                try clear c20
                try clear c23
                try clear c23b0
                try clear c23b1
                try clear c26
                try clear c28
                try clear c33
                try clear c33b0
                try clear c33b1
                try clear hcz10_0
                try clear hcz10_1
                try clear hcz10_2
                try clear hcz10_3
                try clear hcz16_0
                try clear hcz16_1
                try clear hcz16_2
                try clear hcz16_3
                try clear hcz19_0
                try clear hcz19_1
                try clear hcz19_2
                try clear hcz19_3
                try clear hcz22_0
                try clear hcz22_1
                try clear hcz22_2
                try clear hcz22_3
                try clear hcz24_0
                try clear hcz24_1
                try clear hcz24_2
                try clear hcz24_3
                try clear hcz25_0
                try clear hcz25_1
                try clear hcz25_2
                try clear hcz25_3
                try clear hcz28_0
                try clear hcz28_1
                try clear hcz28_2
                try clear hcz28_3
                try clear hcz30_0
                try clear hcz30_1
                try clear hcz30_2
                try clear hcz30_3
                try clear hcz32_0
                try clear hcz32_1
                try clear hcz32_2
                try clear hcz32_3
                try clear hcz34_0
                try clear hcz34_1
                try clear hcz34_2
                try clear hcz34_3
                try clear hcz35_0
                try clear hcz35_1
                try clear hcz35_2
                try clear hcz35_3
                try clear hcz6_0
                try clear hcz6_1
                try clear hcz6_2
                try clear hcz6_3
                try clear hcz9_0
                try clear hcz9_1
                try clear hcz9_2
                try clear hcz9_3
                try clear hfz10_0
                try clear hfz10_1
                try clear hfz10_2
                try clear hfz10_3
                try clear hfz16_0
                try clear hfz16_1
                try clear hfz16_2
                try clear hfz16_3
                try clear hfz19_0
                try clear hfz19_1
                try clear hfz19_2
                try clear hfz19_3
                try clear hfz22_0
                try clear hfz22_1
                try clear hfz22_2
                try clear hfz22_3
                try clear hfz24_0
                try clear hfz24_1
                try clear hfz24_2
                try clear hfz24_3
                try clear hfz25_0
                try clear hfz25_1
                try clear hfz25_2
                try clear hfz25_3
                try clear hfz28_0
                try clear hfz28_1
                try clear hfz28_2
                try clear hfz28_3
                try clear hfz30_0
                try clear hfz30_1
                try clear hfz30_2
                try clear hfz30_3
                try clear hfz32_0
                try clear hfz32_1
                try clear hfz32_2
                try clear hfz32_3
                try clear hfz34_0
                try clear hfz34_1
                try clear hfz34_2
                try clear hfz34_3
                try clear hfz35_0
                try clear hfz35_1
                try clear hfz35_2
                try clear hfz35_3
                try clear hfz6_0
                try clear hfz6_1
                try clear hfz6_2
                try clear hfz6_3
                try clear hfz9_0
                try clear hfz9_1
                try clear hfz9_2
                try clear hfz9_3
                try clear p2
                obtain ⟨kq, x80_30, rfl, HA, HJ30, BK300, HB⟩ := hcut
                cases kq with
                | zero => exact absurd HA.out (by simp [steelyardref01_Next.j2])
                | succ kj30 =>
                  have H := HA.out
                  clear HA
                  simp only [steelyardref01_Next.j2] at H
                  by_cases c36 : x80_30 = true
                  · subst c36
                    have H1 : ((steelyardref01_Endless.f false).bind fun t311 => (some t311)) = some r := by rw [if_pos rfl] at H; exact H
                    clear H
                    have H := H1
                    clear H1
                    replace H := Option.bind_eq_some_iff.mp H
                    obtain ⟨t311, A370, H⟩ := H
                    replace H : (some t311) = some r := H
                    have A37 := Aside0.mk A370
                    clear A370
                    obtain rfl := Option.some.inj H
                    go_wp2_with (first | ((with_reducible refine gate_callee (f := 50) rfl ?_); refine goesL_ (some 90) rfl rfl Tryd.func50 (by kernel_rfl) rfl #[.bool false] rfl (by (try simp only [List.map_toArray, List.map_cons, List.map_nil]); first | done | rfl | (simp only [List.length_drop, List.length_take]; rfl)) ?_; (with_reducible refine (steelyardref01_Endless.calls false t311 _ A37.out).mono ?_); rintro e w' ⟨rfl, ⟨nd, rfl⟩⟩; refine ⟨_, rfl, ?_⟩))
                    go_ret
                    exact ⟨by first | rfl | (simp [errW_none, errW_some] <;> rfl) | (simp [*, errW_none, errW_some] <;> rfl), by repeat (first | (with_reducible first | exact HB.out | apply below_alloc | apply pw_below_drewN | apply below_drew1 | refine below_set ?_ GE300.out) | exact HB.out)⟩
                  · replace c36 := Bool.eq_false_iff.mpr c36
                    subst c36
                    have H1 : (if (IntKind.u64.wrap (t299 + 1)) = 9007199254740992 then ((steelyardref01_Make.f kj30 false 4503599627370496 (wrap64 (t298 + 1))).bind fun bt312 => (some bt312.1)) else ((steelyardref01_Make.f kj30 false (IntKind.u64.wrap (t299 + 1)) t298).bind fun bt314 => (some bt314.1))) = some r := by rw [if_neg (show ¬ (false = true) by decide)] at H; exact H
                    clear H
                    have H := H1
                    clear H1
                    by_cases c38 : (IntKind.u64.wrap (t299 + 1)) = 9007199254740992
                    · rw [if_pos c38] at H
                      have c38b0 : ((IntKind.u64.wrap (t299 + 1)) == 9007199254740992) = true := beq_iff_eq.mpr c38
                      have c38b1 : ((IntKind.u64.wrap (t299 + 1)) != 9007199254740992) = false := bne_eq_false_iff_eq.mpr c38
                      clear c38
                      replace H := Option.bind_eq_some_iff.mp H
                      obtain ⟨⟨t312, t313⟩, A390, H⟩ := H
                      replace H : (some t312) = some r := H
                      have A39 := Aside0.mk A390
                      clear A390
                      obtain rfl := Option.some.inj H
                      have hcz40_0 : wc.cell? ⟨gb300, 0, none⟩ = some (.bool false) := (blk_cell BK300.out 0).trans rfl
                      have hcz40_1 : wc.cell? ⟨gb300, 1, none⟩ = some (.int .i64 t297) := (blk_cell BK300.out 1).trans rfl
                      have hcz40_2 : wc.cell? ⟨gb300, 2, none⟩ = some (.int .i64 t298) := (blk_cell BK300.out 2).trans rfl
                      have hcz40_3 : wc.cell? ⟨gb300, 3, none⟩ = some (.int .u64 t299) := (blk_cell BK300.out 3).trans rfl
                      have hfz40_0 := blk_frozen BK300.out 0
                      have hfz40_1 := blk_frozen BK300.out 1
                      have hfz40_2 := blk_frozen BK300.out 2
                      have hfz40_3 := blk_frozen BK300.out 3
                      go_wp2_with (first | ((with_reducible refine gate_callee (f := 49) rfl ?_); refine goesL_ (some 100) rfl rfl Tryd.func49 (by kernel_rfl) rfl #[.bool false, .int .u64 4503599627370496, .int .i64 (wrap64 (t298 + 1))] rfl (by (try simp only [List.map_toArray, List.map_cons, List.map_nil]); first | done | rfl | (simp only [List.length_drop, List.length_take]; rfl)) ?_; (with_reducible refine (steelyardref01_Make.calls kj30 false 4503599627370496 (wrap64 (t298 + 1)) t312 t313 _ A39.out).mono ?_); rintro e w' ⟨rfl, ⟨nd, rfl⟩⟩; refine ⟨_, rfl, ?_⟩))
                      go_ret
                      exact ⟨by first | rfl | (simp [errW_none, errW_some] <;> rfl) | (simp [*, errW_none, errW_some] <;> rfl), by repeat (first | (with_reducible first | exact HB.out | apply below_alloc | apply pw_below_drewN | apply below_drew1 | refine below_set ?_ GE300.out) | exact HB.out)⟩
                    · rw [if_neg c38] at H
                      have c38b0 : ((IntKind.u64.wrap (t299 + 1)) == 9007199254740992) = false := beq_eq_false_iff_ne.mpr c38
                      have c38b1 : ((IntKind.u64.wrap (t299 + 1)) != 9007199254740992) = true := bne_iff_ne.mpr c38
                      replace H := Option.bind_eq_some_iff.mp H
                      obtain ⟨⟨t314, t315⟩, A410, H⟩ := H
                      replace H : (some t314) = some r := H
                      have A41 := Aside0.mk A410
                      clear A410
                      obtain rfl := Option.some.inj H
                      have hcz42_0 : wc.cell? ⟨gb300, 0, none⟩ = some (.bool false) := (blk_cell BK300.out 0).trans rfl
                      have hcz42_1 : wc.cell? ⟨gb300, 1, none⟩ = some (.int .i64 t297) := (blk_cell BK300.out 1).trans rfl
                      have hcz42_2 : wc.cell? ⟨gb300, 2, none⟩ = some (.int .i64 t298) := (blk_cell BK300.out 2).trans rfl
                      have hcz42_3 : wc.cell? ⟨gb300, 3, none⟩ = some (.int .u64 t299) := (blk_cell BK300.out 3).trans rfl
                      have hfz42_0 := blk_frozen BK300.out 0
                      have hfz42_1 := blk_frozen BK300.out 1
                      have hfz42_2 := blk_frozen BK300.out 2
                      have hfz42_3 := blk_frozen BK300.out 3
                      go_wp2_with (first | ((with_reducible refine gate_callee (f := 49) rfl ?_); refine goesL_ (some 110) rfl rfl Tryd.func49 (by kernel_rfl) rfl #[.bool false, .int .u64 (IntKind.u64.wrap (t299 + 1)), .int .i64 t298] rfl (by (try simp only [List.map_toArray, List.map_cons, List.map_nil]); first | done | rfl | (simp only [List.length_drop, List.length_take]; rfl)) ?_; (with_reducible refine (steelyardref01_Make.calls kj30 false (IntKind.u64.wrap (t299 + 1)) t298 t314 t315 _ A41.out).mono ?_); rintro e w' ⟨rfl, ⟨nd, rfl⟩⟩; refine ⟨_, rfl, ?_⟩))
                      go_ret
                      exact ⟨by first | rfl | (simp [errW_none, errW_some] <;> rfl) | (simp [*, errW_none, errW_some] <;> rfl), by repeat (first | (with_reducible first | exact HB.out | apply below_alloc | apply pw_below_drewN | apply below_drew1 | refine below_set ?_ GE300.out) | exact HB.out)⟩

end Go.Proofs.YtjkcgelemidapaaDoor.Pr
