-- written by this session's own program (wip/fprint.py), which widens the kit's print by floats
import Derived.Test.YtjkcgelemidapaaDoorPr0
import Derived.Test.YtjkcgelemidapaaDoorPr1
import Derived.Test.YtjkcgelemidapaaDoorPr2
import Derived.Test.YtjkcgelemidapaaDoorPr4
import Derived.Test.YtjkcgelemidapaaDoorPr5
import Derived.Test.YtjkcgelemidapaaDoorPr6
import Derived.Test.YtjkcgelemidapaaDoorPr8
namespace Go.Proofs.YtjkcgelemidapaaDoor.Pr
open Go.RowKit Go.Proofs.YtjkcgelemidapaaDoorW.PrintWords Go.Proofs.YtjkcgelemidapaaDoorW.PrintLast Go.Proofs.YtjkcgelemidapaaDoorW.PrintMore
attribute [local go_sem] max2_int min2_int max_two min_two max_three min_three max_four min_four   -- for this text's walks alone
set_option linter.unusedVariables false
set_option linter.unusedSimpArgs false

attribute [local go_sem high] eqA28
/-! ### bits_Next: function 38 -/
def bits_Next.f (a0 : Nat) : Option (Nat) := if (FloatKind.f64.format.order a0 a0 != some .eq) = true then ((bits_NaN.f).bind fun t138 => (some t138)) else (if (FloatKind.f64.format.order a0 0 == some .eq) = true then (some 1) else (if (FloatKind.f64.format.order a0 0 == some .lt) = true then (some ((IntKind.u64.wrap ((a0 : Int) - 1) : Int).toNat)) else ((math_IsInf.f a0 1).bind fun t139 => (if t139 = true then (some a0) else (some ((IntKind.u64.wrap ((a0 : Int) + 1) : Int).toNat))))))
set_option maxHeartbeats 3000000 in
set_option maxRecDepth 100000 in
theorem bits_Next.calls (a0 : Nat) (r : Nat) (w : World) (h : bits_Next.f a0 = some r) :
    Calls Tryd.prog 38 #[.float .f64 a0] w fun e w' => e = .returned (.float .f64 r) ∧ Drawn0 w w' := by
  have H : (if (FloatKind.f64.format.order a0 a0 != some .eq) = true then ((bits_NaN.f).bind fun t138 => (some t138)) else (if (FloatKind.f64.format.order a0 0 == some .eq) = true then (some 1) else (if (FloatKind.f64.format.order a0 0 == some .lt) = true then (some ((IntKind.u64.wrap ((a0 : Int) - 1) : Int).toNat)) else ((math_IsInf.f a0 1).bind fun t139 => (if t139 = true then (some a0) else (some ((IntKind.u64.wrap ((a0 : Int) + 1) : Int).toNat))))))) = some r := h
  clear h
  by_cases c2 : (FloatKind.f64.format.order a0 a0 != some .eq) = true
  · rw [if_pos c2] at H
    have c2b0 : (FloatKind.f64.format.order a0 a0 != some .eq) = true := c2
    clear c2
    replace H := Option.bind_eq_some_iff.mp H
    obtain ⟨t138, A30, H⟩ := H
    replace H : (some t138) = some r := H
    have A3 := Aside0.mk A30
    clear A30
    obtain rfl := Option.some.inj H
    go_enter Tryd.func38, Tryd.ntmps38
    go_wp2_with (first | ((with_reducible refine gate_callee (f := 16) rfl ?_); refine goesL_ (some 10) rfl rfl Tryd.func16 (by kernel_rfl) rfl #[] rfl (by (try simp only [List.map_toArray, List.map_cons, List.map_nil]); first | done | rfl | (simp only [List.length_drop, List.length_take]; rfl)) ?_; (with_reducible refine (bits_NaN.calls  t138 _ A3.out).mono ?_); rintro e w' ⟨rfl, ⟨nd, rfl⟩⟩; refine ⟨_, rfl, ?_⟩))
    go_ret
    exact ⟨by first | rfl | (simp; done) | (simp [*]; done), by repeat (first | exact Drawn0.refl _ | apply Drawn0.step)⟩
  · rw [if_neg c2] at H
    have c2b0 : (FloatKind.f64.format.order a0 a0 != some .eq) = false := by simpa using c2
    clear c2
    by_cases c4 : (FloatKind.f64.format.order a0 0 == some .eq) = true
    · rw [if_pos c4] at H
      have c4b0 : (FloatKind.f64.format.order a0 0 == some .eq) = true := c4
      clear c4
      obtain rfl := Option.some.inj H
      go_enter Tryd.func38, Tryd.ntmps38
      go_wp2
      go_ret
      exact ⟨by first | rfl | (simp; done) | (simp [*]; done), by repeat (first | exact Drawn0.refl _ | apply Drawn0.step)⟩
    · rw [if_neg c4] at H
      have c4b0 : (FloatKind.f64.format.order a0 0 == some .eq) = false := by simpa using c4
      clear c4
      by_cases c5 : (FloatKind.f64.format.order a0 0 == some .lt) = true
      · rw [if_pos c5] at H
        have c5b0 : (FloatKind.f64.format.order a0 0 == some .lt) = true := c5
        clear c5
        obtain rfl := Option.some.inj H
        go_enter Tryd.func38, Tryd.ntmps38
        go_wp2
        go_ret
        exact ⟨by first | rfl | (simp; done) | (simp [*]; done), by repeat (first | exact Drawn0.refl _ | apply Drawn0.step)⟩
      · rw [if_neg c5] at H
        have c5b0 : (FloatKind.f64.format.order a0 0 == some .lt) = false := by simpa using c5
        clear c5
        replace H := Option.bind_eq_some_iff.mp H
        obtain ⟨t139, A60, H⟩ := H
        replace H : (if t139 = true then (some a0) else (some ((IntKind.u64.wrap ((a0 : Int) + 1) : Int).toNat))) = some r := H
        have A6 := Aside0.mk A60
        clear A60
        by_cases c7 : t139 = true
        · subst c7
          have H1 : (some a0) = some r := by rw [if_pos rfl] at H; exact H
          clear H
          have H := H1
          clear H1
          obtain rfl := Option.some.inj H
          go_enter Tryd.func38, Tryd.ntmps38
          go_wp2_with (first | ((with_reducible refine gate_callee (f := 44) rfl ?_); refine goesL_ (some 23) rfl rfl Tryd.func44 (by kernel_rfl) rfl #[.float .f64 a0, .int .i64 1] rfl (by (try simp only [List.map_toArray, List.map_cons, List.map_nil]); first | done | rfl | (simp only [List.length_drop, List.length_take]; rfl)) ?_; (with_reducible refine (math_IsInf.calls a0 1 true _ A6.out).mono ?_); rintro e w' ⟨rfl, ⟨nd, rfl⟩⟩; refine ⟨_, rfl, ?_⟩))
          go_ret
          exact ⟨by first | rfl | (simp; done) | (simp [*]; done), by repeat (first | exact Drawn0.refl _ | apply Drawn0.step)⟩
        · replace c7 := Bool.eq_false_iff.mpr c7
          subst c7
          have H1 : (some ((IntKind.u64.wrap ((a0 : Int) + 1) : Int).toNat)) = some r := by rw [if_neg (show ¬ (false = true) by decide)] at H; exact H
          clear H
          have H := H1
          clear H1
          obtain rfl := Option.some.inj H
          go_enter Tryd.func38, Tryd.ntmps38
          go_wp2_with (first | ((with_reducible refine gate_callee (f := 44) rfl ?_); refine goesL_ (some 23) rfl rfl Tryd.func44 (by kernel_rfl) rfl #[.float .f64 a0, .int .i64 1] rfl (by (try simp only [List.map_toArray, List.map_cons, List.map_nil]); first | done | rfl | (simp only [List.length_drop, List.length_take]; rfl)) ?_; (with_reducible refine (math_IsInf.calls a0 1 false _ A6.out).mono ?_); rintro e w' ⟨rfl, ⟨nd, rfl⟩⟩; refine ⟨_, rfl, ?_⟩))
          go_ret
          exact ⟨by first | rfl | (simp; done) | (simp [*]; done), by repeat (first | exact Drawn0.refl _ | apply Drawn0.step)⟩

/-! ### steelyardlaw01_live: function 14 -/
def steelyardlaw01_live.f (k : Nat)  : Option (Bool) := (bits_Split.f k 4607182418800017408).bind fun bt140 => ((bits_Join.f k true 1 (-1074) 3).bind fun bt145 => ((bits_Narrow.f k 4607182418800017408 2).bind fun bt147 => (if (!bt140.1 && (bt140.2.1 == 2 && (bt140.2.2.1 == (-52) && (bt140.2.2.2 == 4503599627370496)))) = true then (if bt145.2 = 0 then (if (bt145.1 : Int) = 9223372036854775811 then (if bt147.2 = 0 then (if (FloatKind.f32.format.order bt147.1 1065353216 == some .eq) = true then ((bits_Next.f 4607182418800017408).bind fun t149 => (if (FloatKind.f64.format.order t149 4607182418800017408 == some .gt) = true then ((bits_Order.f 4611686018427387904 4607182418800017408).bind fun t150 => (some (t150 == 1))) else (none))) else (none)) else (none)) else (none)) else (none)) else (none))))
theorem steelyardlaw01_live.mono : ∀ k, LeO (steelyardlaw01_live.f k ) (steelyardlaw01_live.f (k + 1) ) := by
  intro  k
  unfold steelyardlaw01_live.f
  repeat' first
      | (with_reducible exact bits_Join.mono _ _ _ _ _)
      | (with_reducible exact bits_Narrow.mono _ _ _)
      | (with_reducible exact bits_Split.mono _ _)
      | (with_reducible exact LeO.refl _)
      | (with_reducible exact LeO.none _)
      | (with_reducible refine LeO.ite ?_ ?_)
      | (with_reducible refine LeO.bind ?_ (fun _ => ?_))
      | exact bits_Join.mono _ _ _ _ _
      | exact bits_Narrow.mono _ _ _
      | exact bits_Split.mono _ _
      | exact LeO.none _
      | refine LeO.ite ?_ ?_
      | refine LeO.bind ?_ (fun _ => ?_)
set_option maxHeartbeats 3000000 in
set_option maxRecDepth 100000 in
theorem steelyardlaw01_live.calls (k : Nat)  (r : Bool) (w : World) (hG : GlobLaid w) (h : steelyardlaw01_live.f k  = some r) :
    Calls Tryd.prog 14 #[] w fun e w' => e = .returned (.bool r) ∧ Below w.heap.size w w' := by
  have hu28 := Tryd.underlying28
  have HG := Aside0.mk hG
  clear hG
  have HB := Aside0.mk (Below.refl w.heap.size w)
  have H : ((bits_Split.f k 4607182418800017408).bind fun bt140 => ((bits_Join.f k true 1 (-1074) 3).bind fun bt145 => ((bits_Narrow.f k 4607182418800017408 2).bind fun bt147 => (if (!bt140.1 && (bt140.2.1 == 2 && (bt140.2.2.1 == (-52) && (bt140.2.2.2 == 4503599627370496)))) = true then (if bt145.2 = 0 then (if (bt145.1 : Int) = 9223372036854775811 then (if bt147.2 = 0 then (if (FloatKind.f32.format.order bt147.1 1065353216 == some .eq) = true then ((bits_Next.f 4607182418800017408).bind fun t149 => (if (FloatKind.f64.format.order t149 4607182418800017408 == some .gt) = true then ((bits_Order.f 4611686018427387904 4607182418800017408).bind fun t150 => (some (t150 == 1))) else (none))) else (none)) else (none)) else (none)) else (none)) else (none))))) = some r := h
  clear h
  replace H := Option.bind_eq_some_iff.mp H
  obtain ⟨⟨t140, t141, t142, t143⟩, A10, H⟩ := H
  replace H : ((bits_Join.f k true 1 (-1074) 3).bind fun bt145 => ((bits_Narrow.f k 4607182418800017408 2).bind fun bt147 => (if (!t140 && (t141 == 2 && (t142 == (-52) && (t143 == 4503599627370496)))) = true then (if bt145.2 = 0 then (if (bt145.1 : Int) = 9223372036854775811 then (if bt147.2 = 0 then (if (FloatKind.f32.format.order bt147.1 1065353216 == some .eq) = true then ((bits_Next.f 4607182418800017408).bind fun t149 => (if (FloatKind.f64.format.order t149 4607182418800017408 == some .gt) = true then ((bits_Order.f 4611686018427387904 4607182418800017408).bind fun t150 => (some (t150 == 1))) else (none))) else (none)) else (none)) else (none)) else (none)) else (none)))) = some r := H
  have A1 := Aside0.mk A10
  clear A10
  replace H := Option.bind_eq_some_iff.mp H
  obtain ⟨⟨t145, t146⟩, A20, H⟩ := H
  replace H : ((bits_Narrow.f k 4607182418800017408 2).bind fun bt147 => (if (!t140 && (t141 == 2 && (t142 == (-52) && (t143 == 4503599627370496)))) = true then (if t146 = 0 then (if (t145 : Int) = 9223372036854775811 then (if bt147.2 = 0 then (if (FloatKind.f32.format.order bt147.1 1065353216 == some .eq) = true then ((bits_Next.f 4607182418800017408).bind fun t149 => (if (FloatKind.f64.format.order t149 4607182418800017408 == some .gt) = true then ((bits_Order.f 4611686018427387904 4607182418800017408).bind fun t150 => (some (t150 == 1))) else (none))) else (none)) else (none)) else (none)) else (none)) else (none))) = some r := H
  have A2 := Aside0.mk A20
  clear A20
  replace H := Option.bind_eq_some_iff.mp H
  obtain ⟨⟨t147, t148⟩, A30, H⟩ := H
  replace H : (if (!t140 && (t141 == 2 && (t142 == (-52) && (t143 == 4503599627370496)))) = true then (if t146 = 0 then (if (t145 : Int) = 9223372036854775811 then (if t148 = 0 then (if (FloatKind.f32.format.order t147 1065353216 == some .eq) = true then ((bits_Next.f 4607182418800017408).bind fun t149 => (if (FloatKind.f64.format.order t149 4607182418800017408 == some .gt) = true then ((bits_Order.f 4611686018427387904 4607182418800017408).bind fun t150 => (some (t150 == 1))) else (none))) else (none)) else (none)) else (none)) else (none)) else (none)) = some r := H
  have A3 := Aside0.mk A30
  clear A30
  by_cases c4 : (!t140 && (t141 == 2 && (t142 == (-52) && (t143 == 4503599627370496)))) = true
  · rw [if_pos c4] at H
    have c4b0 : (!t140 && (t141 == 2 && (t142 == (-52) && (t143 == 4503599627370496)))) = true := c4
    clear c4
    by_cases c5 : t146 = 0
    · rw [if_pos c5] at H
      have c5b0 : (t146 == 0) = true := beq_iff_eq.mpr c5
      have c5b1 : (t146 != 0) = false := bne_eq_false_iff_eq.mpr c5
      clear c5
      by_cases c6 : (t145 : Int) = 9223372036854775811
      · rw [if_pos c6] at H
        have c6b0 : ((t145 : Int) == 9223372036854775811) = true := beq_iff_eq.mpr c6
        have c6b1 : ((t145 : Int) != 9223372036854775811) = false := bne_eq_false_iff_eq.mpr c6
        clear c6
        by_cases c7 : t148 = 0
        · rw [if_pos c7] at H
          have c7b0 : (t148 == 0) = true := beq_iff_eq.mpr c7
          have c7b1 : (t148 != 0) = false := bne_eq_false_iff_eq.mpr c7
          clear c7
          by_cases c8 : (FloatKind.f32.format.order t147 1065353216 == some .eq) = true
          · rw [if_pos c8] at H
            have c8b0 : (FloatKind.f32.format.order t147 1065353216 == some .eq) = true := c8
            clear c8
            replace H := Option.bind_eq_some_iff.mp H
            obtain ⟨t149, A90, H⟩ := H
            replace H : (if (FloatKind.f64.format.order t149 4607182418800017408 == some .gt) = true then ((bits_Order.f 4611686018427387904 4607182418800017408).bind fun t150 => (some (t150 == 1))) else (none)) = some r := H
            have A9 := Aside0.mk A90
            clear A90
            by_cases c10 : (FloatKind.f64.format.order t149 4607182418800017408 == some .gt) = true
            · rw [if_pos c10] at H
              have c10b0 : (FloatKind.f64.format.order t149 4607182418800017408 == some .gt) = true := c10
              clear c10
              replace H := Option.bind_eq_some_iff.mp H
              obtain ⟨t150, A110, H⟩ := H
              replace H : (some (t150 == 1)) = some r := H
              have A11 := Aside0.mk A110
              clear A110
              obtain rfl := Option.some.inj H
              go_enter Tryd.func14, Tryd.ntmps14
              go_wp2_with (first | ((with_reducible refine gate_callee (f := 20) rfl ?_); refine goesL_ (some 6) rfl rfl Tryd.func20 (by kernel_rfl) rfl #[.float .f64 4607182418800017408] rfl (by (try simp only [List.map_toArray, List.map_cons, List.map_nil]); first | done | rfl | (simp only [List.length_drop, List.length_take]; rfl)) ?_; (with_reducible refine (bits_Split.calls k 4607182418800017408 t140 t141 t142 t143 _ A1.out).mono ?_); rintro e w12 ⟨rfl, hb⟩; refine ⟨_, rfl, ?_⟩; have n0_ := bs_ HB hb; clear HB; have HB := n0_; clear n0_; (try clear hb); (try clear hb2); (try clear hk); (try clear hi)) | ((with_reducible refine gate_dst (N := 1) rfl ?_); refine box_event ?hg (N := 1) ?hd (cs := #[.bool false, .int .i64 0, .int .i64 0, .int .u64 0]) (t := 28) ?hr ?_; (case hd => rfl); (case hg => rfl); (case hr => first | (go_simp; done) | (go_simp; rfl)); intro gb144 hg w13 hbox hb; have n0_ := bs_ HB hb; have n1_ := Aside0.mk (hbox); have n2_ := ge_ HB hg; have n3_ := ge_ HB hg; clear HB; have HB := n0_; have BK144 := n1_; have GW144 := n2_; have GE144 := n3_; clear n0_ n1_ n2_ n3_; clear hb hbox hg; have hcz14_0 : w13.cell? ⟨gb144, 0, none⟩ = some (.bool false) := (blk_cell BK144.out 0).trans rfl; have hcz14_1 : w13.cell? ⟨gb144, 1, none⟩ = some (.int .i64 0) := (blk_cell BK144.out 1).trans rfl; have hcz14_2 : w13.cell? ⟨gb144, 2, none⟩ = some (.int .i64 0) := (blk_cell BK144.out 2).trans rfl; have hcz14_3 : w13.cell? ⟨gb144, 3, none⟩ = some (.int .u64 0) := (blk_cell BK144.out 3).trans rfl; have hfz14_0 := blk_frozen BK144.out 0; have hfz14_1 := blk_frozen BK144.out 1; have hfz14_2 := blk_frozen BK144.out 2; have hfz14_3 := blk_frozen BK144.out 3) | ((with_reducible refine gate_callee (f := 17) rfl ?_); refine goesL_ (some 9) rfl rfl Tryd.func17 (by kernel_rfl) rfl #[.agg #[.bool true, .int .i64 1, .int .i64 (-1074), .int .u64 3]] rfl (by (try simp only [List.map_toArray, List.map_cons, List.map_nil]); first | done | rfl | (simp only [List.length_drop, List.length_take]; rfl)) ?_; (with_reducible refine (bits_Join.calls k true 1 (-1074) 3 t145 t146 _ A2.out).mono ?_); rintro e w15 ⟨rfl, hb⟩; refine ⟨_, rfl, ?_⟩; have n0_ := Aside0.mk (blk_below (g := gb144) (o := .cells #[.bool t140, .int .i64 t141, .int .i64 t142, .int .u64 t143] 28 (0, 0)) (by (with_reducible repeat (first | refine blk_drewN ?_ _ | refine blk_drew ?_ | refine blk_alloc ?_ _)); refine blk_put (cs := #[.bool t140, .int .i64 t141, .int .i64 t142, .int .u64 0]) ?_ 3 _ rfl; (with_reducible repeat (first | refine blk_drewN ?_ _ | refine blk_drew ?_ | refine blk_alloc ?_ _)); refine blk_put (cs := #[.bool t140, .int .i64 t141, .int .i64 0, .int .u64 0]) ?_ 2 _ rfl; (with_reducible repeat (first | refine blk_drewN ?_ _ | refine blk_drew ?_ | refine blk_alloc ?_ _)); refine blk_put (cs := #[.bool t140, .int .i64 0, .int .i64 0, .int .u64 0]) ?_ 1 _ rfl; (with_reducible repeat (first | refine blk_drewN ?_ _ | refine blk_drew ?_ | refine blk_alloc ?_ _)); refine blk_put (cs := #[.bool false, .int .i64 0, .int .i64 0, .int .u64 0]) ?_ 0 _ rfl; (with_reducible repeat (first | refine blk_drewN ?_ _ | refine blk_drew ?_ | refine blk_alloc ?_ _)); exact BK144.out) hb); have n1_ := bs_ HB hb; clear BK144; clear HB; have BK144 := n0_; have HB := n1_; clear n0_ n1_; (try clear hb); (try clear hb2); (try clear hk); (try clear hi)) | ((with_reducible refine gate_callee (f := 24) rfl ?_); refine goesL_ (some 13) rfl rfl Tryd.func24 (by kernel_rfl) rfl #[.float .f64 4607182418800017408, .int .i64 2] rfl (by (try simp only [List.map_toArray, List.map_cons, List.map_nil]); first | done | rfl | (simp only [List.length_drop, List.length_take]; rfl)) ?_; (with_reducible refine (bits_Narrow.calls k 4607182418800017408 2 t147 t148 _ ?side1 A3.out).mono ?_); (case side1 => exact GlobLaid.below HG.out (bl_ HB)); rintro e w' ⟨rfl, ⟨nd, rfl⟩⟩; refine ⟨_, rfl, ?_⟩; have hcz16_0 : w15.cell? ⟨gb144, 0, none⟩ = some (.bool t140) := (blk_cell BK144.out 0).trans rfl; have hcz16_1 : w15.cell? ⟨gb144, 1, none⟩ = some (.int .i64 t141) := (blk_cell BK144.out 1).trans rfl; have hcz16_2 : w15.cell? ⟨gb144, 2, none⟩ = some (.int .i64 t142) := (blk_cell BK144.out 2).trans rfl; have hcz16_3 : w15.cell? ⟨gb144, 3, none⟩ = some (.int .u64 t143) := (blk_cell BK144.out 3).trans rfl; have hfz16_0 := blk_frozen BK144.out 0; have hfz16_1 := blk_frozen BK144.out 1; have hfz16_2 := blk_frozen BK144.out 2; have hfz16_3 := blk_frozen BK144.out 3) | (go_at_call 38; (with_reducible refine (bits_Next.calls 4607182418800017408 t149 _ A9.out).mono ?_); rintro e w' ⟨rfl, ⟨nd, rfl⟩⟩) | (go_at_call 22; (with_reducible refine (bits_Order.calls 4611686018427387904 4607182418800017408 t150 _ A11.out).mono ?_); rintro e w' ⟨rfl, ⟨nd, rfl⟩⟩))
              go_ret
              exact ⟨by first | rfl | (simp [errW_none, errW_some] <;> rfl) | (simp [*, errW_none, errW_some] <;> rfl), by repeat (first | (with_reducible first | exact HB.out | apply below_alloc | apply pw_below_drewN | apply below_drew1 | refine below_set ?_ GE144.out) | exact HB.out)⟩
            · rw [if_neg c10] at H
              exact absurd H (by simp)
          · rw [if_neg c8] at H
            exact absurd H (by simp)
        · rw [if_neg c7] at H
          exact absurd H (by simp)
      · rw [if_neg c6] at H
        exact absurd H (by simp)
    · rw [if_neg c5] at H
      exact absurd H (by simp)
  · rw [if_neg c4] at H
    exact absurd H (by simp)

/-! ### steelyardlaw01_BitsNumbers: function 3 -/
def steelyardlaw01_BitsNumbers.f (k : Nat)  : Option (Bool) := (steelyardlaw01_live.f k).bind fun t151 => (if t151 = true then ((bits_NaN.f).bind fun t152 => (some ((t152 : Int) == 9221120237041090560))) else (none))
theorem steelyardlaw01_BitsNumbers.mono : ∀ k, LeO (steelyardlaw01_BitsNumbers.f k ) (steelyardlaw01_BitsNumbers.f (k + 1) ) := by
  intro  k
  unfold steelyardlaw01_BitsNumbers.f
  repeat' first
      | (with_reducible exact steelyardlaw01_live.mono _)
      | (with_reducible exact LeO.refl _)
      | (with_reducible exact LeO.none _)
      | (with_reducible refine LeO.ite ?_ ?_)
      | (with_reducible refine LeO.bind ?_ (fun _ => ?_))
      | exact steelyardlaw01_live.mono _
      | exact LeO.none _
      | refine LeO.ite ?_ ?_
      | refine LeO.bind ?_ (fun _ => ?_)
set_option maxHeartbeats 3000000 in
set_option maxRecDepth 100000 in
theorem steelyardlaw01_BitsNumbers.calls (k : Nat)  (r : Bool) (w : World) (hG : GlobLaid w) (h : steelyardlaw01_BitsNumbers.f k  = some r) :
    Calls Tryd.prog 3 #[] w fun e w' => e = .returned (.bool r) ∧ Below w.heap.size w w' := by
  have HG := Aside0.mk hG
  clear hG
  have HB := Aside0.mk (Below.refl w.heap.size w)
  have H : ((steelyardlaw01_live.f k).bind fun t151 => (if t151 = true then ((bits_NaN.f).bind fun t152 => (some ((t152 : Int) == 9221120237041090560))) else (none))) = some r := h
  clear h
  replace H := Option.bind_eq_some_iff.mp H
  obtain ⟨t151, A10, H⟩ := H
  replace H : (if t151 = true then ((bits_NaN.f).bind fun t152 => (some ((t152 : Int) == 9221120237041090560))) else (none)) = some r := H
  have A1 := Aside0.mk A10
  clear A10
  by_cases c2 : t151 = true
  · subst c2
    have H1 : ((bits_NaN.f).bind fun t152 => (some ((t152 : Int) == 9221120237041090560))) = some r := by rw [if_pos rfl] at H; exact H
    clear H
    have H := H1
    clear H1
    replace H := Option.bind_eq_some_iff.mp H
    obtain ⟨t152, A30, H⟩ := H
    replace H : (some ((t152 : Int) == 9221120237041090560)) = some r := H
    have A3 := Aside0.mk A30
    clear A30
    obtain rfl := Option.some.inj H
    go_enter Tryd.func3, Tryd.ntmps3
    go_wp2_with (first | ((with_reducible refine gate_callee (f := 14) rfl ?_); refine goesL_ (some 4) rfl rfl Tryd.func14 (by kernel_rfl) rfl #[] rfl (by (try simp only [List.map_toArray, List.map_cons, List.map_nil]); first | done | rfl | (simp only [List.length_drop, List.length_take]; rfl)) ?_; (with_reducible refine (steelyardlaw01_live.calls k  true _ ?side1 A1.out).mono ?_); (case side1 => exact GlobLaid.below HG.out (bl_ HB)); rintro e w4 ⟨rfl, hb⟩; refine ⟨_, rfl, ?_⟩; have n0_ := bs_ HB hb; clear HB; have HB := n0_; clear n0_; (try clear hb); (try clear hb2); (try clear hk); (try clear hi)) | (go_at_call 16; (with_reducible refine (bits_NaN.calls  t152 _ A3.out).mono ?_); rintro e w' ⟨rfl, ⟨nd, rfl⟩⟩))
    go_ret
    exact ⟨by first | rfl | (simp [errW_none, errW_some] <;> rfl) | (simp [*, errW_none, errW_some] <;> rfl), by repeat (first | (with_reducible first | exact HB.out | apply below_alloc | apply pw_below_drewN | apply below_drew1) | exact HB.out)⟩
  · replace c2 := Bool.eq_false_iff.mpr c2
    subst c2
    have H1 : (none) = some r := by rw [if_neg (show ¬ (false = true) by decide)] at H; exact H
    clear H
    have H := H1
    clear H1
    exact absurd H (by simp)

/-- THE ONE PURE STATEMENT of steelyardlaw01_BitsNumbers: yours. -/
def steelyardlaw01_BitsNumbers.Pure : Prop := ∃ k, steelyardlaw01_BitsNumbers.f k  = some true

end Go.Proofs.YtjkcgelemidapaaDoor.Pr
