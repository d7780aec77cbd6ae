-- short
-- written by this session's own program (wip/fprint.py), which widens the kit's print by floats
import Derived.Test.YtkoonpjlpobmeaaWShort
import Derived.Test.YtkoonpjlpobmeaaPr0
import Derived.Test.YtkoonpjlpobmeaaPr9
namespace Go.Proofs.Ytkoonpjlpobmeaa.Pr
open Go.RowKit Go.Proofs.YtkoonpjlpobmeaaW.PrintWords Go.Proofs.YtkoonpjlpobmeaaW.PrintLast Go.Proofs.YtkoonpjlpobmeaaW.PrintMore
attribute [local go_sem] max2_int min2_int max_two min_two max_three min_three max_four min_four   -- for this text's walks alone
set_option linter.unusedVariables false
set_option linter.unusedSimpArgs false

/-! ### math_Copysign: function 37 -/
def math_Copysign.f (a0 : Nat) (a1 : Nat) : Option (Nat) := some ((Go.bits .or .u64 (Go.bits .andNot .u64 (a0 : Int) 9223372036854775808) (Go.bits .and .u64 (a1 : Int) 9223372036854775808) : Int).toNat)
set_option maxHeartbeats 3000000 in
set_option maxRecDepth 100000 in
theorem math_Copysign.calls (a0 : Nat) (a1 : Nat) (r : Nat) (w : World) (h : math_Copysign.f a0 a1 = some r) :
  Calls Try.prog 37 #[.float .f64 a0, .float .f64 a1] w fun e w' => e = .returned (.float .f64 r) ∧ Drawn0 w w' := by
 have H : (some ((Go.bits .or .u64 (Go.bits .andNot .u64 (a0 : Int) 9223372036854775808) (Go.bits .and .u64 (a1 : Int) 9223372036854775808) : Int).toNat)) = some r := h
 clear h
 obtain rfl := Option.some.inj H
 go_enter Try.func37, Try.ntmps37
 go_wp2
 go_ret
 exact ⟨by first | rfl | (simp; done) | (simp [*]; done), by repeat (first | exact Drawn0.refl _ | apply Drawn0.step)⟩

/-! ### policy_Nought: function 20 -/
def policy_Nought.f (a0_0 : Int) (a0_1 : Int) (a0_2 : Int) (a0_3 : Int) (a0_4 : Int) (a0_5 : Int) (a1 : Int) : Option (Nat) := (policy_mayBe.f a0_0 a0_1 a0_2 a0_3 a0_4 a0_5).bind fun t150 => (if t150 = true then (if (wrap64 ((wrap64 ((wrap64 (a0_5 - a0_0)) - a0_1)) - a0_2)) > 0 then (if a0_3 = (wrap64 ((wrap64 ((wrap64 (a0_5 - a0_0)) - a0_1)) - a0_2)) then ((math_Copysign.f 0 13830554455654793216).bind fun t151 => (some t151)) else (if a0_4 < (wrap64 ((wrap64 ((wrap64 (a0_5 - a0_0)) - a0_1)) - a0_2)) then (if a1 = 3 then ((math_Copysign.f 0 13830554455654793216).bind fun t152 => (some t152)) else (some 0)) else (some 0))) else (some 0)) else (some 0))
set_option maxHeartbeats 3000000 in
set_option maxRecDepth 100000 in
theorem policy_Nought.calls (a0_0 : Int) (a0_1 : Int) (a0_2 : Int) (a0_3 : Int) (a0_4 : Int) (a0_5 : Int) (a1 : Int) (r : Nat) (w : World) (h : policy_Nought.f a0_0 a0_1 a0_2 a0_3 a0_4 a0_5 a1 = some r) :
  Calls Try.prog 20 #[.agg #[.int .i64 a0_0, .int .i64 a0_1, .int .i64 a0_2, .int .i64 a0_3, .int .i64 a0_4, .int .i64 a0_5], .int .i64 a1] w fun e w' => e = .returned (.float .f64 r) ∧ Below w.heap.size w w' := by
 have hu30 := Try.underlying30
 have HB := Aside0.mk (Below.refl w.heap.size w)
 have H : ((policy_mayBe.f a0_0 a0_1 a0_2 a0_3 a0_4 a0_5).bind fun t150 => (if t150 = true then (if (wrap64 ((wrap64 ((wrap64 (a0_5 - a0_0)) - a0_1)) - a0_2)) > 0 then (if a0_3 = (wrap64 ((wrap64 ((wrap64 (a0_5 - a0_0)) - a0_1)) - a0_2)) then ((math_Copysign.f 0 13830554455654793216).bind fun t151 => (some t151)) else (if a0_4 < (wrap64 ((wrap64 ((wrap64 (a0_5 - a0_0)) - a0_1)) - a0_2)) then (if a1 = 3 then ((math_Copysign.f 0 13830554455654793216).bind fun t152 => (some t152)) else (some 0)) else (some 0))) else (some 0)) else (some 0))) = some r := h
 clear h
 obtain ⟨t150, A3, H⟩ := ob_ H
 try dsimp only at H
 by_cases c4 : t150 = true
 ·subst c4
  have H1 : (if (wrap64 ((wrap64 ((wrap64 (a0_5 - a0_0)) - a0_1)) - a0_2)) > 0 then (if a0_3 = (wrap64 ((wrap64 ((wrap64 (a0_5 - a0_0)) - a0_1)) - a0_2)) then ((math_Copysign.f 0 13830554455654793216).bind fun t151 => (some t151)) else (if a0_4 < (wrap64 ((wrap64 ((wrap64 (a0_5 - a0_0)) - a0_1)) - a0_2)) then (if a1 = 3 then ((math_Copysign.f 0 13830554455654793216).bind fun t152 => (some t152)) else (some 0)) else (some 0))) else (some 0)) = some r := by rw [if_pos rfl] at H; exact H
  clear H
  have H := H1
  clear H1
  by_cases c5 : (wrap64 ((wrap64 ((wrap64 (a0_5 - a0_0)) - a0_1)) - a0_2)) > 0
  ·rw [if_pos c5] at H
   have c5b0 : decide (0 < (wrap64 ((wrap64 ((wrap64 (a0_5 - a0_0)) - a0_1)) - a0_2))) = true := decide_eq_true c5
   clear c5
   by_cases c6 : a0_3 = (wrap64 ((wrap64 ((wrap64 (a0_5 - a0_0)) - a0_1)) - a0_2))
   ·rw [if_pos c6] at H
    have c6b0 : (a0_3 == (wrap64 ((wrap64 ((wrap64 (a0_5 - a0_0)) - a0_1)) - a0_2))) = true := beq_iff_eq.mpr c6
    have c6b1 : (a0_3 != (wrap64 ((wrap64 ((wrap64 (a0_5 - a0_0)) - a0_1)) - a0_2))) = false := bne_eq_false_iff_eq.mpr c6
    clear c6
    obtain ⟨t151, A7, H⟩ := ob_ H
    try dsimp only at H
    obtain rfl := Option.some.inj H
    go_enter Try.func20, Try.ntmps20
    go_wp2_with (first | ((with_reducible refine gate_dst (N := 2) rfl ?_); refine box_event ?hg (N := 2) ?hd (cs := #[.int .i64 a0_0, .int .i64 a0_1, .int .i64 a0_2, .int .i64 a0_3, .int .i64 a0_4, .int .i64 a0_5]) (t := 30) ?hr ?_; (case hd => rfl); (case hg => rfl); (case hr => first | (go_simp; done) | (go_simp; rfl)); intro gb149 hg w8 hbox hb; have n0_ := bs_ HB hb; have n1_ := Aside0.mk (hbox); have n2_ := ge_ HB hg; have n3_ := ge_ HB hg; clear HB; have HB := n0_; have BK149 := n1_; have GW149 := n2_; have GE149 := n3_; clear n0_ n1_ n2_ n3_; clear hb hbox hg; have hcz9_0 : w8.cell? ⟨gb149, 0, none⟩ = some (.int .i64 a0_0) := (blk_cell BK149.out 0).trans rfl; have hcz9_1 : w8.cell? ⟨gb149, 1, none⟩ = some (.int .i64 a0_1) := (blk_cell BK149.out 1).trans rfl; have hcz9_2 : w8.cell? ⟨gb149, 2, none⟩ = some (.int .i64 a0_2) := (blk_cell BK149.out 2).trans rfl; have hcz9_3 : w8.cell? ⟨gb149, 3, none⟩ = some (.int .i64 a0_3) := (blk_cell BK149.out 3).trans rfl; have hcz9_4 : w8.cell? ⟨gb149, 4, none⟩ = some (.int .i64 a0_4) := (blk_cell BK149.out 4).trans rfl; have hcz9_5 : w8.cell? ⟨gb149, 5, none⟩ = some (.int .i64 a0_5) := (blk_cell BK149.out 5).trans rfl; have hfz9_0 := blk_frozen BK149.out 0; have hfz9_1 := blk_frozen BK149.out 1; have hfz9_2 := blk_frozen BK149.out 2; have hfz9_3 := blk_frozen BK149.out 3; have hfz9_4 := blk_frozen BK149.out 4; have hfz9_5 := blk_frozen BK149.out 5) | ((with_reducible refine gate_callee (f := 33) rfl ?_); refine goesM (some 18) Try.func33 #[.agg #[.int .i64 a0_0, .int .i64 a0_1, .int .i64 a0_2, .int .i64 a0_3, .int .i64 a0_4, .int .i64 a0_5]] ?_; (with_reducible refine (policy_mayBe.calls a0_0 a0_1 a0_2 a0_3 a0_4 a0_5 true _ A3.out).mono ?_); rintro e w10 ⟨rfl, hb⟩; refine ⟨_, rfl, ?_⟩; have n0_ := kb_ BK149 hb; have n1_ := bs_ HB hb; clear BK149; clear HB; have BK149 := n0_; have HB := n1_; clear n0_ n1_; (try clear hb); (try clear hb2); (try clear hk); (try clear hi); have hcz11_0 : w10.cell? ⟨gb149, 0, none⟩ = some (.int .i64 a0_0) := (blk_cell BK149.out 0).trans rfl; have hcz11_1 : w10.cell? ⟨gb149, 1, none⟩ = some (.int .i64 a0_1) := (blk_cell BK149.out 1).trans rfl; have hcz11_2 : w10.cell? ⟨gb149, 2, none⟩ = some (.int .i64 a0_2) := (blk_cell BK149.out 2).trans rfl; have hcz11_3 : w10.cell? ⟨gb149, 3, none⟩ = some (.int .i64 a0_3) := (blk_cell BK149.out 3).trans rfl; have hcz11_4 : w10.cell? ⟨gb149, 4, none⟩ = some (.int .i64 a0_4) := (blk_cell BK149.out 4).trans rfl; have hcz11_5 : w10.cell? ⟨gb149, 5, none⟩ = some (.int .i64 a0_5) := (blk_cell BK149.out 5).trans rfl; have hfz11_0 := blk_frozen BK149.out 0; have hfz11_1 := blk_frozen BK149.out 1; have hfz11_2 := blk_frozen BK149.out 2; have hfz11_3 := blk_frozen BK149.out 3; have hfz11_4 := blk_frozen BK149.out 4; have hfz11_5 := blk_frozen BK149.out 5) | ((with_reducible refine gate_callee (f := 37) rfl ?_); refine goesM (some 39) Try.func37 #[.float .f64 0, .float .f64 13830554455654793216] ?_; (with_reducible refine (math_Copysign.calls 0 13830554455654793216 t151 _ A7.out).mono ?_); rintro e w' ⟨rfl, ⟨nd, rfl⟩⟩; refine ⟨_, rfl, ?_⟩))
    go_ret
    exact ⟨by first | rfl | (simp [errW_none, errW_some] <;> rfl) | (simp [*, errW_none, errW_some] <;> rfl), bl_ HB⟩
   ·rw [if_neg c6] at H
    have c6b0 : (a0_3 == (wrap64 ((wrap64 ((wrap64 (a0_5 - a0_0)) - a0_1)) - a0_2))) = false := beq_eq_false_iff_ne.mpr c6
    have c6b1 : (a0_3 != (wrap64 ((wrap64 ((wrap64 (a0_5 - a0_0)) - a0_1)) - a0_2))) = true := bne_iff_ne.mpr c6
    by_cases c12 : a0_4 < (wrap64 ((wrap64 ((wrap64 (a0_5 - a0_0)) - a0_1)) - a0_2))
    ·rw [if_pos c12] at H
     have c12b0 : decide (a0_4 < (wrap64 ((wrap64 ((wrap64 (a0_5 - a0_0)) - a0_1)) - a0_2))) = true := decide_eq_true c12
     clear c12
     by_cases c13 : a1 = 3
     ·rw [if_pos c13] at H
      have c13b0 : (a1 == 3) = true := beq_iff_eq.mpr c13
      have c13b1 : (a1 != 3) = false := bne_eq_false_iff_eq.mpr c13
      clear c13
      obtain ⟨t152, A14, H⟩ := ob_ H
      try dsimp only at H
      obtain rfl := Option.some.inj H
      go_enter Try.func20, Try.ntmps20
      go_wp2_with (first | ((with_reducible refine gate_dst (N := 2) rfl ?_); refine box_event ?hg (N := 2) ?hd (cs := #[.int .i64 a0_0, .int .i64 a0_1, .int .i64 a0_2, .int .i64 a0_3, .int .i64 a0_4, .int .i64 a0_5]) (t := 30) ?hr ?_; (case hd => rfl); (case hg => rfl); (case hr => first | (go_simp; done) | (go_simp; rfl)); intro gb149 hg w15 hbox hb; have n0_ := bs_ HB hb; have n1_ := Aside0.mk (hbox); have n2_ := ge_ HB hg; have n3_ := ge_ HB hg; clear HB; have HB := n0_; have BK149 := n1_; have GW149 := n2_; have GE149 := n3_; clear n0_ n1_ n2_ n3_; clear hb hbox hg; have hcz16_0 : w15.cell? ⟨gb149, 0, none⟩ = some (.int .i64 a0_0) := (blk_cell BK149.out 0).trans rfl; have hcz16_1 : w15.cell? ⟨gb149, 1, none⟩ = some (.int .i64 a0_1) := (blk_cell BK149.out 1).trans rfl; have hcz16_2 : w15.cell? ⟨gb149, 2, none⟩ = some (.int .i64 a0_2) := (blk_cell BK149.out 2).trans rfl; have hcz16_3 : w15.cell? ⟨gb149, 3, none⟩ = some (.int .i64 a0_3) := (blk_cell BK149.out 3).trans rfl; have hcz16_4 : w15.cell? ⟨gb149, 4, none⟩ = some (.int .i64 a0_4) := (blk_cell BK149.out 4).trans rfl; have hcz16_5 : w15.cell? ⟨gb149, 5, none⟩ = some (.int .i64 a0_5) := (blk_cell BK149.out 5).trans rfl; have hfz16_0 := blk_frozen BK149.out 0; have hfz16_1 := blk_frozen BK149.out 1; have hfz16_2 := blk_frozen BK149.out 2; have hfz16_3 := blk_frozen BK149.out 3; have hfz16_4 := blk_frozen BK149.out 4; have hfz16_5 := blk_frozen BK149.out 5) | ((with_reducible refine gate_callee (f := 33) rfl ?_); refine goesM (some 18) Try.func33 #[.agg #[.int .i64 a0_0, .int .i64 a0_1, .int .i64 a0_2, .int .i64 a0_3, .int .i64 a0_4, .int .i64 a0_5]] ?_; (with_reducible refine (policy_mayBe.calls a0_0 a0_1 a0_2 a0_3 a0_4 a0_5 true _ A3.out).mono ?_); rintro e w17 ⟨rfl, hb⟩; refine ⟨_, rfl, ?_⟩; have n0_ := kb_ BK149 hb; have n1_ := bs_ HB hb; clear BK149; clear HB; have BK149 := n0_; have HB := n1_; clear n0_ n1_; (try clear hb); (try clear hb2); (try clear hk); (try clear hi); have hcz18_0 : w17.cell? ⟨gb149, 0, none⟩ = some (.int .i64 a0_0) := (blk_cell BK149.out 0).trans rfl; have hcz18_1 : w17.cell? ⟨gb149, 1, none⟩ = some (.int .i64 a0_1) := (blk_cell BK149.out 1).trans rfl; have hcz18_2 : w17.cell? ⟨gb149, 2, none⟩ = some (.int .i64 a0_2) := (blk_cell BK149.out 2).trans rfl; have hcz18_3 : w17.cell? ⟨gb149, 3, none⟩ = some (.int .i64 a0_3) := (blk_cell BK149.out 3).trans rfl; have hcz18_4 : w17.cell? ⟨gb149, 4, none⟩ = some (.int .i64 a0_4) := (blk_cell BK149.out 4).trans rfl; have hcz18_5 : w17.cell? ⟨gb149, 5, none⟩ = some (.int .i64 a0_5) := (blk_cell BK149.out 5).trans rfl; have hfz18_0 := blk_frozen BK149.out 0; have hfz18_1 := blk_frozen BK149.out 1; have hfz18_2 := blk_frozen BK149.out 2; have hfz18_3 := blk_frozen BK149.out 3; have hfz18_4 := blk_frozen BK149.out 4; have hfz18_5 := blk_frozen BK149.out 5) | ((with_reducible refine gate_callee (f := 37) rfl ?_); refine goesM (some 39) Try.func37 #[.float .f64 0, .float .f64 13830554455654793216] ?_; (with_reducible refine (math_Copysign.calls 0 13830554455654793216 t152 _ A14.out).mono ?_); rintro e w' ⟨rfl, ⟨nd, rfl⟩⟩; refine ⟨_, rfl, ?_⟩))
      go_ret
      exact ⟨by first | rfl | (simp [errW_none, errW_some] <;> rfl) | (simp [*, errW_none, errW_some] <;> rfl), bl_ HB⟩
     ·rw [if_neg c13] at H
      have c13b0 : (a1 == 3) = false := beq_eq_false_iff_ne.mpr c13
      have c13b1 : (a1 != 3) = true := bne_iff_ne.mpr c13
      obtain rfl := Option.some.inj H
      go_enter Try.func20, Try.ntmps20
      go_wp2_with (first | ((with_reducible refine gate_dst (N := 2) rfl ?_); refine box_event ?hg (N := 2) ?hd (cs := #[.int .i64 a0_0, .int .i64 a0_1, .int .i64 a0_2, .int .i64 a0_3, .int .i64 a0_4, .int .i64 a0_5]) (t := 30) ?hr ?_; (case hd => rfl); (case hg => rfl); (case hr => first | (go_simp; done) | (go_simp; rfl)); intro gb149 hg w19 hbox hb; have n0_ := bs_ HB hb; have n1_ := Aside0.mk (hbox); have n2_ := ge_ HB hg; have n3_ := ge_ HB hg; clear HB; have HB := n0_; have BK149 := n1_; have GW149 := n2_; have GE149 := n3_; clear n0_ n1_ n2_ n3_; clear hb hbox hg; have hcz20_0 : w19.cell? ⟨gb149, 0, none⟩ = some (.int .i64 a0_0) := (blk_cell BK149.out 0).trans rfl; have hcz20_1 : w19.cell? ⟨gb149, 1, none⟩ = some (.int .i64 a0_1) := (blk_cell BK149.out 1).trans rfl; have hcz20_2 : w19.cell? ⟨gb149, 2, none⟩ = some (.int .i64 a0_2) := (blk_cell BK149.out 2).trans rfl; have hcz20_3 : w19.cell? ⟨gb149, 3, none⟩ = some (.int .i64 a0_3) := (blk_cell BK149.out 3).trans rfl; have hcz20_4 : w19.cell? ⟨gb149, 4, none⟩ = some (.int .i64 a0_4) := (blk_cell BK149.out 4).trans rfl; have hcz20_5 : w19.cell? ⟨gb149, 5, none⟩ = some (.int .i64 a0_5) := (blk_cell BK149.out 5).trans rfl; have hfz20_0 := blk_frozen BK149.out 0; have hfz20_1 := blk_frozen BK149.out 1; have hfz20_2 := blk_frozen BK149.out 2; have hfz20_3 := blk_frozen BK149.out 3; have hfz20_4 := blk_frozen BK149.out 4; have hfz20_5 := blk_frozen BK149.out 5) | ((with_reducible refine gate_callee (f := 33) rfl ?_); refine goesM (some 18) Try.func33 #[.agg #[.int .i64 a0_0, .int .i64 a0_1, .int .i64 a0_2, .int .i64 a0_3, .int .i64 a0_4, .int .i64 a0_5]] ?_; (with_reducible refine (policy_mayBe.calls a0_0 a0_1 a0_2 a0_3 a0_4 a0_5 true _ A3.out).mono ?_); rintro e w21 ⟨rfl, hb⟩; refine ⟨_, rfl, ?_⟩; have n0_ := kb_ BK149 hb; have n1_ := bs_ HB hb; clear BK149; clear HB; have BK149 := n0_; have HB := n1_; clear n0_ n1_; (try clear hb); (try clear hb2); (try clear hk); (try clear hi); have hcz22_0 : w21.cell? ⟨gb149, 0, none⟩ = some (.int .i64 a0_0) := (blk_cell BK149.out 0).trans rfl; have hcz22_1 : w21.cell? ⟨gb149, 1, none⟩ = some (.int .i64 a0_1) := (blk_cell BK149.out 1).trans rfl; have hcz22_2 : w21.cell? ⟨gb149, 2, none⟩ = some (.int .i64 a0_2) := (blk_cell BK149.out 2).trans rfl; have hcz22_3 : w21.cell? ⟨gb149, 3, none⟩ = some (.int .i64 a0_3) := (blk_cell BK149.out 3).trans rfl; have hcz22_4 : w21.cell? ⟨gb149, 4, none⟩ = some (.int .i64 a0_4) := (blk_cell BK149.out 4).trans rfl; have hcz22_5 : w21.cell? ⟨gb149, 5, none⟩ = some (.int .i64 a0_5) := (blk_cell BK149.out 5).trans rfl; have hfz22_0 := blk_frozen BK149.out 0; have hfz22_1 := blk_frozen BK149.out 1; have hfz22_2 := blk_frozen BK149.out 2; have hfz22_3 := blk_frozen BK149.out 3; have hfz22_4 := blk_frozen BK149.out 4; have hfz22_5 := blk_frozen BK149.out 5))
      go_ret
      exact ⟨by first | rfl | (simp [errW_none, errW_some] <;> rfl) | (simp [*, errW_none, errW_some] <;> rfl), bl_ HB⟩
    ·rw [if_neg c12] at H
     have c12b0 : decide (a0_4 < (wrap64 ((wrap64 ((wrap64 (a0_5 - a0_0)) - a0_1)) - a0_2))) = false := decide_eq_false c12
     clear c12
     obtain rfl := Option.some.inj H
     go_enter Try.func20, Try.ntmps20
     go_wp2_with (first | ((with_reducible refine gate_dst (N := 2) rfl ?_); refine box_event ?hg (N := 2) ?hd (cs := #[.int .i64 a0_0, .int .i64 a0_1, .int .i64 a0_2, .int .i64 a0_3, .int .i64 a0_4, .int .i64 a0_5]) (t := 30) ?hr ?_; (case hd => rfl); (case hg => rfl); (case hr => first | (go_simp; done) | (go_simp; rfl)); intro gb149 hg w23 hbox hb; have n0_ := bs_ HB hb; have n1_ := Aside0.mk (hbox); have n2_ := ge_ HB hg; have n3_ := ge_ HB hg; clear HB; have HB := n0_; have BK149 := n1_; have GW149 := n2_; have GE149 := n3_; clear n0_ n1_ n2_ n3_; clear hb hbox hg; have hcz24_0 : w23.cell? ⟨gb149, 0, none⟩ = some (.int .i64 a0_0) := (blk_cell BK149.out 0).trans rfl; have hcz24_1 : w23.cell? ⟨gb149, 1, none⟩ = some (.int .i64 a0_1) := (blk_cell BK149.out 1).trans rfl; have hcz24_2 : w23.cell? ⟨gb149, 2, none⟩ = some (.int .i64 a0_2) := (blk_cell BK149.out 2).trans rfl; have hcz24_3 : w23.cell? ⟨gb149, 3, none⟩ = some (.int .i64 a0_3) := (blk_cell BK149.out 3).trans rfl; have hcz24_4 : w23.cell? ⟨gb149, 4, none⟩ = some (.int .i64 a0_4) := (blk_cell BK149.out 4).trans rfl; have hcz24_5 : w23.cell? ⟨gb149, 5, none⟩ = some (.int .i64 a0_5) := (blk_cell BK149.out 5).trans rfl; have hfz24_0 := blk_frozen BK149.out 0; have hfz24_1 := blk_frozen BK149.out 1; have hfz24_2 := blk_frozen BK149.out 2; have hfz24_3 := blk_frozen BK149.out 3; have hfz24_4 := blk_frozen BK149.out 4; have hfz24_5 := blk_frozen BK149.out 5) | ((with_reducible refine gate_callee (f := 33) rfl ?_); refine goesM (some 18) Try.func33 #[.agg #[.int .i64 a0_0, .int .i64 a0_1, .int .i64 a0_2, .int .i64 a0_3, .int .i64 a0_4, .int .i64 a0_5]] ?_; (with_reducible refine (policy_mayBe.calls a0_0 a0_1 a0_2 a0_3 a0_4 a0_5 true _ A3.out).mono ?_); rintro e w25 ⟨rfl, hb⟩; refine ⟨_, rfl, ?_⟩; have n0_ := kb_ BK149 hb; have n1_ := bs_ HB hb; clear BK149; clear HB; have BK149 := n0_; have HB := n1_; clear n0_ n1_; (try clear hb); (try clear hb2); (try clear hk); (try clear hi); have hcz26_0 : w25.cell? ⟨gb149, 0, none⟩ = some (.int .i64 a0_0) := (blk_cell BK149.out 0).trans rfl; have hcz26_1 : w25.cell? ⟨gb149, 1, none⟩ = some (.int .i64 a0_1) := (blk_cell BK149.out 1).trans rfl; have hcz26_2 : w25.cell? ⟨gb149, 2, none⟩ = some (.int .i64 a0_2) := (blk_cell BK149.out 2).trans rfl; have hcz26_3 : w25.cell? ⟨gb149, 3, none⟩ = some (.int .i64 a0_3) := (blk_cell BK149.out 3).trans rfl; have hcz26_4 : w25.cell? ⟨gb149, 4, none⟩ = some (.int .i64 a0_4) := (blk_cell BK149.out 4).trans rfl; have hcz26_5 : w25.cell? ⟨gb149, 5, none⟩ = some (.int .i64 a0_5) := (blk_cell BK149.out 5).trans rfl; have hfz26_0 := blk_frozen BK149.out 0; have hfz26_1 := blk_frozen BK149.out 1; have hfz26_2 := blk_frozen BK149.out 2; have hfz26_3 := blk_frozen BK149.out 3; have hfz26_4 := blk_frozen BK149.out 4; have hfz26_5 := blk_frozen BK149.out 5))
     go_ret
     exact ⟨by first | rfl | (simp [errW_none, errW_some] <;> rfl) | (simp [*, errW_none, errW_some] <;> rfl), bl_ HB⟩
  ·rw [if_neg c5] at H
   have c5b0 : decide (0 < (wrap64 ((wrap64 ((wrap64 (a0_5 - a0_0)) - a0_1)) - a0_2))) = false := decide_eq_false c5
   clear c5
   obtain rfl := Option.some.inj H
   go_enter Try.func20, Try.ntmps20
   go_wp2_with (first | ((with_reducible refine gate_dst (N := 2) rfl ?_); refine box_event ?hg (N := 2) ?hd (cs := #[.int .i64 a0_0, .int .i64 a0_1, .int .i64 a0_2, .int .i64 a0_3, .int .i64 a0_4, .int .i64 a0_5]) (t := 30) ?hr ?_; (case hd => rfl); (case hg => rfl); (case hr => first | (go_simp; done) | (go_simp; rfl)); intro gb149 hg w27 hbox hb; have n0_ := bs_ HB hb; have n1_ := Aside0.mk (hbox); have n2_ := ge_ HB hg; have n3_ := ge_ HB hg; clear HB; have HB := n0_; have BK149 := n1_; have GW149 := n2_; have GE149 := n3_; clear n0_ n1_ n2_ n3_; clear hb hbox hg; have hcz28_0 : w27.cell? ⟨gb149, 0, none⟩ = some (.int .i64 a0_0) := (blk_cell BK149.out 0).trans rfl; have hcz28_1 : w27.cell? ⟨gb149, 1, none⟩ = some (.int .i64 a0_1) := (blk_cell BK149.out 1).trans rfl; have hcz28_2 : w27.cell? ⟨gb149, 2, none⟩ = some (.int .i64 a0_2) := (blk_cell BK149.out 2).trans rfl; have hcz28_3 : w27.cell? ⟨gb149, 3, none⟩ = some (.int .i64 a0_3) := (blk_cell BK149.out 3).trans rfl; have hcz28_4 : w27.cell? ⟨gb149, 4, none⟩ = some (.int .i64 a0_4) := (blk_cell BK149.out 4).trans rfl; have hcz28_5 : w27.cell? ⟨gb149, 5, none⟩ = some (.int .i64 a0_5) := (blk_cell BK149.out 5).trans rfl; have hfz28_0 := blk_frozen BK149.out 0; have hfz28_1 := blk_frozen BK149.out 1; have hfz28_2 := blk_frozen BK149.out 2; have hfz28_3 := blk_frozen BK149.out 3; have hfz28_4 := blk_frozen BK149.out 4; have hfz28_5 := blk_frozen BK149.out 5) | ((with_reducible refine gate_callee (f := 33) rfl ?_); refine goesM (some 18) Try.func33 #[.agg #[.int .i64 a0_0, .int .i64 a0_1, .int .i64 a0_2, .int .i64 a0_3, .int .i64 a0_4, .int .i64 a0_5]] ?_; (with_reducible refine (policy_mayBe.calls a0_0 a0_1 a0_2 a0_3 a0_4 a0_5 true _ A3.out).mono ?_); rintro e w29 ⟨rfl, hb⟩; refine ⟨_, rfl, ?_⟩; have n0_ := kb_ BK149 hb; have n1_ := bs_ HB hb; clear BK149; clear HB; have BK149 := n0_; have HB := n1_; clear n0_ n1_; (try clear hb); (try clear hb2); (try clear hk); (try clear hi)))
   go_ret
   exact ⟨by first | rfl | (simp [errW_none, errW_some] <;> rfl) | (simp [*, errW_none, errW_some] <;> rfl), bl_ HB⟩
 ·replace c4 := Bool.eq_false_iff.mpr c4
  subst c4
  have H1 : (some 0) = some r := by rw [if_neg (show ¬ (false = true) by decide)] at H; exact H
  clear H
  have H := H1
  clear H1
  obtain rfl := Option.some.inj H
  go_enter Try.func20, Try.ntmps20
  go_wp2_with (first | ((with_reducible refine gate_dst (N := 2) rfl ?_); refine box_event ?hg (N := 2) ?hd (cs := #[.int .i64 a0_0, .int .i64 a0_1, .int .i64 a0_2, .int .i64 a0_3, .int .i64 a0_4, .int .i64 a0_5]) (t := 30) ?hr ?_; (case hd => rfl); (case hg => rfl); (case hr => first | (go_simp; done) | (go_simp; rfl)); intro gb149 hg w30 hbox hb; have n0_ := bs_ HB hb; have n1_ := Aside0.mk (hbox); have n2_ := ge_ HB hg; have n3_ := ge_ HB hg; clear HB; have HB := n0_; have BK149 := n1_; have GW149 := n2_; have GE149 := n3_; clear n0_ n1_ n2_ n3_; clear hb hbox hg; have hcz31_0 : w30.cell? ⟨gb149, 0, none⟩ = some (.int .i64 a0_0) := (blk_cell BK149.out 0).trans rfl; have hcz31_1 : w30.cell? ⟨gb149, 1, none⟩ = some (.int .i64 a0_1) := (blk_cell BK149.out 1).trans rfl; have hcz31_2 : w30.cell? ⟨gb149, 2, none⟩ = some (.int .i64 a0_2) := (blk_cell BK149.out 2).trans rfl; have hcz31_3 : w30.cell? ⟨gb149, 3, none⟩ = some (.int .i64 a0_3) := (blk_cell BK149.out 3).trans rfl; have hcz31_4 : w30.cell? ⟨gb149, 4, none⟩ = some (.int .i64 a0_4) := (blk_cell BK149.out 4).trans rfl; have hcz31_5 : w30.cell? ⟨gb149, 5, none⟩ = some (.int .i64 a0_5) := (blk_cell BK149.out 5).trans rfl; have hfz31_0 := blk_frozen BK149.out 0; have hfz31_1 := blk_frozen BK149.out 1; have hfz31_2 := blk_frozen BK149.out 2; have hfz31_3 := blk_frozen BK149.out 3; have hfz31_4 := blk_frozen BK149.out 4; have hfz31_5 := blk_frozen BK149.out 5) | ((with_reducible refine gate_callee (f := 33) rfl ?_); refine goesM (some 18) Try.func33 #[.agg #[.int .i64 a0_0, .int .i64 a0_1, .int .i64 a0_2, .int .i64 a0_3, .int .i64 a0_4, .int .i64 a0_5]] ?_; (with_reducible refine (policy_mayBe.calls a0_0 a0_1 a0_2 a0_3 a0_4 a0_5 false _ A3.out).mono ?_); rintro e w32 ⟨rfl, hb⟩; refine ⟨_, rfl, ?_⟩; have n0_ := kb_ BK149 hb; have n1_ := bs_ HB hb; clear BK149; clear HB; have BK149 := n0_; have HB := n1_; clear n0_ n1_; (try clear hb); (try clear hb2); (try clear hk); (try clear hi)))
  go_ret
  exact ⟨by first | rfl | (simp [errW_none, errW_some] <;> rfl) | (simp [*, errW_none, errW_some] <;> rfl), bl_ HB⟩

/-! ### steelyardref03_Alike: function 21 -/
def steelyardref03_Alike.f (a0 : Nat) (a1 : Nat) : Option (Bool) := some ((a0 : Int) == (a1 : Int))
set_option maxHeartbeats 3000000 in
set_option maxRecDepth 100000 in
theorem steelyardref03_Alike.calls (a0 : Nat) (a1 : Nat) (r : Bool) (w : World) (h : steelyardref03_Alike.f a0 a1 = some r) :
  Calls Try.prog 21 #[.float .f64 a0, .float .f64 a1] w fun e w' => e = .returned (.bool r) ∧ Drawn0 w w' := by
 have H : (some ((a0 : Int) == (a1 : Int))) = some r := h
 clear h
 obtain rfl := Option.some.inj H
 go_enter Try.func21, Try.ntmps21
 go_wp2
 go_ret
 exact ⟨by first | rfl | (simp; done) | (simp [*]; done), by repeat (first | exact Drawn0.refl _ | apply Drawn0.step)⟩

/-! ### steelyardref06_Zero: function 24 -/
def steelyardref06_Zero.f (a0 : Bool) : Option (Nat) := if a0 = true then (some 9223372036854775808) else (some 0)
set_option maxHeartbeats 3000000 in
set_option maxRecDepth 100000 in
theorem steelyardref06_Zero.calls (a0 : Bool) (r : Nat) (w : World) (h : steelyardref06_Zero.f a0 = some r) :
  Calls Try.prog 24 #[.bool a0] w fun e w' => e = .returned (.float .f64 r) ∧ Drawn0 w w' := by
 have H : (if a0 = true then (some 9223372036854775808) else (some 0)) = some r := h
 clear h
 by_cases c2 : a0 = true
 ·subst c2
  have H1 : (some 9223372036854775808) = some r := by rw [if_pos rfl] at H; exact H
  clear H
  have H := H1
  clear H1
  obtain rfl := Option.some.inj H
  go_enter Try.func24, Try.ntmps24
  go_wp2
  go_ret
  exact ⟨by first | rfl | (simp; done) | (simp [*]; done), by repeat (first | exact Drawn0.refl _ | apply Drawn0.step)⟩
 ·replace c2 := Bool.eq_false_iff.mpr c2
  subst c2
  have H1 : (some 0) = some r := by rw [if_neg (show ¬ (false = true) by decide)] at H; exact H
  clear H
  have H := H1
  clear H1
  obtain rfl := Option.some.inj H
  go_enter Try.func24, Try.ntmps24
  go_wp2
  go_ret
  exact ⟨by first | rfl | (simp; done) | (simp [*]; done), by repeat (first | exact Drawn0.refl _ | apply Drawn0.step)⟩

/-! ### steelyardref06_TheNaN: function 25 -/
def steelyardref06_TheNaN.f  : Option (Nat) := some 9221120237041090560
set_option maxHeartbeats 3000000 in
set_option maxRecDepth 100000 in
theorem steelyardref06_TheNaN.calls  (r : Nat) (w : World) (h : steelyardref06_TheNaN.f  = some r) :
  Calls Try.prog 25 #[] w fun e w' => e = .returned (.float .f64 r) ∧ Drawn0 w w' := by
 have H : (some 9221120237041090560) = some r := h
 clear h
 obtain rfl := Option.some.inj H
 go_enter Try.func25, Try.ntmps25
 go_wp2
 go_ret
 exact ⟨by first | rfl | (simp; done) | (simp [*]; done), by repeat (first | exact Drawn0.refl _ | apply Drawn0.step)⟩

/-! ### steelyardref06_Inf: function 26 -/
def steelyardref06_Inf.f (a0 : Bool) : Option (Nat) := if a0 = true then (some ((9218868437227405312 + 9223372036854775808 : Int).toNat)) else (some 9218868437227405312)
set_option maxHeartbeats 3000000 in
set_option maxRecDepth 100000 in
theorem steelyardref06_Inf.calls (a0 : Bool) (r : Nat) (w : World) (h : steelyardref06_Inf.f a0 = some r) :
  Calls Try.prog 26 #[.bool a0] w fun e w' => e = .returned (.float .f64 r) ∧ Drawn0 w w' := by
 have H : (if a0 = true then (some ((9218868437227405312 + 9223372036854775808 : Int).toNat)) else (some 9218868437227405312)) = some r := h
 clear h
 by_cases c2 : a0 = true
 ·subst c2
  have H1 : (some ((9218868437227405312 + 9223372036854775808 : Int).toNat)) = some r := by rw [if_pos rfl] at H; exact H
  clear H
  have H := H1
  clear H1
  obtain rfl := Option.some.inj H
  go_enter Try.func26, Try.ntmps26
  go_wp2
  go_ret
  exact ⟨by first | rfl | (simp; done) | (simp [*]; done), by repeat (first | exact Drawn0.refl _ | apply Drawn0.step)⟩
 ·replace c2 := Bool.eq_false_iff.mpr c2
  subst c2
  have H1 : (some 9218868437227405312) = some r := by rw [if_neg (show ¬ (false = true) by decide)] at H; exact H
  clear H
  have H := H1
  clear H1
  obtain rfl := Option.some.inj H
  go_enter Try.func26, Try.ntmps26
  go_wp2
  go_ret
  exact ⟨by first | rfl | (simp; done) | (simp [*]; done), by repeat (first | exact Drawn0.refl _ | apply Drawn0.step)⟩

end Go.Proofs.Ytkoonpjlpobmeaa.Pr
