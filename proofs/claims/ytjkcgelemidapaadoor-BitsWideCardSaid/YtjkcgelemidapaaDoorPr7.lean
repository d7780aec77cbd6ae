-- written by this session's own program (wip/fprint.py), which widens the kit's print by floats
import Derived.Test.YtjkcgelemidapaaDoorPr0
import Derived.Test.YtjkcgelemidapaaDoorPr6
namespace Go.Proofs.YtjkcgelemidapaaDoor.Pr
open Go.RowKit Go.Proofs.YtjkcgelemidapaaDoorW.PrintWords Go.Proofs.YtjkcgelemidapaaDoorW.PrintLast Go.Proofs.YtjkcgelemidapaaDoorW.PrintMore
attribute [local go_sem] max2_int min2_int max_two min_two max_three min_three max_four min_four   -- for this text's walks alone
set_option linter.unusedVariables false
set_option linter.unusedSimpArgs false

/-! ### math_ldexp: function 63 -/
def math_ldexp.f (a0 : Nat) (a1 : Int) : Option (Nat) := if (FloatKind.f64.format.order a0 0 == some .eq) = true then (some a0) else ((math_IsInf.f a0 0).bind fun t124 => (if t124 = true then (some a0) else ((math_IsNaN.f a0).bind fun t125 => (if t125 = true then (some a0) else ((math_normalize.f a0).bind fun bt126 => (if (wrap64 ((wrap64 (a1 + bt126.2)) + (wrap64 ((Go.bits .and .i64 (wrap64 ((bt126.1 : Int) / 4503599627370496)) 2047) - 1023)))) < (-1075) then ((math_Copysign.f 0 bt126.1).bind fun t128 => (some t128)) else (if (wrap64 ((wrap64 (a1 + bt126.2)) + (wrap64 ((Go.bits .and .i64 (wrap64 ((bt126.1 : Int) / 4503599627370496)) 2047) - 1023)))) > 1023 then (if (FloatKind.f64.format.order bt126.1 0 == some .lt) = true then ((math_Inf.f (-1)).bind fun t129 => (some t129)) else ((math_Inf.f 1).bind fun t130 => (some t130))) else (if (wrap64 ((wrap64 (a1 + bt126.2)) + (wrap64 ((Go.bits .and .i64 (wrap64 ((bt126.1 : Int) / 4503599627370496)) 2047) - 1023)))) < (-1022) then (if (FloatKind.f64.format.mul 4368491638549381120 ((Go.bits .or .u64 (Go.bits .andNot .u64 (bt126.1 : Int) 9218868437227405312) (IntKind.u64.wrap ((IntKind.u64.wrap (wrap64 ((wrap64 ((wrap64 ((wrap64 (a1 + bt126.2)) + (wrap64 ((Go.bits .and .i64 (wrap64 ((bt126.1 : Int) / 4503599627370496)) 2047) - 1023)))) + 53)) + 1023))) * 4503599627370496)) : Int).toNat)).isSome = true then (some ((FloatKind.f64.format.mul 4368491638549381120 ((Go.bits .or .u64 (Go.bits .andNot .u64 (bt126.1 : Int) 9218868437227405312) (IntKind.u64.wrap ((IntKind.u64.wrap (wrap64 ((wrap64 ((wrap64 ((wrap64 (a1 + bt126.2)) + (wrap64 ((Go.bits .and .i64 (wrap64 ((bt126.1 : Int) / 4503599627370496)) 2047) - 1023)))) + 53)) + 1023))) * 4503599627370496)) : Int).toNat)).getD 0)) else (none)) else (if (FloatKind.f64.format.mul 4607182418800017408 ((Go.bits .or .u64 (Go.bits .andNot .u64 (bt126.1 : Int) 9218868437227405312) (IntKind.u64.wrap ((IntKind.u64.wrap (wrap64 ((wrap64 ((wrap64 (a1 + bt126.2)) + (wrap64 ((Go.bits .and .i64 (wrap64 ((bt126.1 : Int) / 4503599627370496)) 2047) - 1023)))) + 1023))) * 4503599627370496)) : Int).toNat)).isSome = true then (some ((FloatKind.f64.format.mul 4607182418800017408 ((Go.bits .or .u64 (Go.bits .andNot .u64 (bt126.1 : Int) 9218868437227405312) (IntKind.u64.wrap ((IntKind.u64.wrap (wrap64 ((wrap64 ((wrap64 (a1 + bt126.2)) + (wrap64 ((Go.bits .and .i64 (wrap64 ((bt126.1 : Int) / 4503599627370496)) 2047) - 1023)))) + 1023))) * 4503599627370496)) : Int).toNat)).getD 0)) else (none))))))))))
set_option maxHeartbeats 3000000 in
set_option maxRecDepth 100000 in
theorem math_ldexp.calls (a0 : Nat) (a1 : Int) (r : Nat) (w : World) (h : math_ldexp.f a0 a1 = some r) :
    Calls Tryd.prog 63 #[.float .f64 a0, .int .i64 a1] w fun e w' => e = .returned (.float .f64 r) ∧ Drawn0 w w' := by
  have H : (if (FloatKind.f64.format.order a0 0 == some .eq) = true then (some a0) else ((math_IsInf.f a0 0).bind fun t124 => (if t124 = true then (some a0) else ((math_IsNaN.f a0).bind fun t125 => (if t125 = true then (some a0) else ((math_normalize.f a0).bind fun bt126 => (if (wrap64 ((wrap64 (a1 + bt126.2)) + (wrap64 ((Go.bits .and .i64 (wrap64 ((bt126.1 : Int) / 4503599627370496)) 2047) - 1023)))) < (-1075) then ((math_Copysign.f 0 bt126.1).bind fun t128 => (some t128)) else (if (wrap64 ((wrap64 (a1 + bt126.2)) + (wrap64 ((Go.bits .and .i64 (wrap64 ((bt126.1 : Int) / 4503599627370496)) 2047) - 1023)))) > 1023 then (if (FloatKind.f64.format.order bt126.1 0 == some .lt) = true then ((math_Inf.f (-1)).bind fun t129 => (some t129)) else ((math_Inf.f 1).bind fun t130 => (some t130))) else (if (wrap64 ((wrap64 (a1 + bt126.2)) + (wrap64 ((Go.bits .and .i64 (wrap64 ((bt126.1 : Int) / 4503599627370496)) 2047) - 1023)))) < (-1022) then (if (FloatKind.f64.format.mul 4368491638549381120 ((Go.bits .or .u64 (Go.bits .andNot .u64 (bt126.1 : Int) 9218868437227405312) (IntKind.u64.wrap ((IntKind.u64.wrap (wrap64 ((wrap64 ((wrap64 ((wrap64 (a1 + bt126.2)) + (wrap64 ((Go.bits .and .i64 (wrap64 ((bt126.1 : Int) / 4503599627370496)) 2047) - 1023)))) + 53)) + 1023))) * 4503599627370496)) : Int).toNat)).isSome = true then (some ((FloatKind.f64.format.mul 4368491638549381120 ((Go.bits .or .u64 (Go.bits .andNot .u64 (bt126.1 : Int) 9218868437227405312) (IntKind.u64.wrap ((IntKind.u64.wrap (wrap64 ((wrap64 ((wrap64 ((wrap64 (a1 + bt126.2)) + (wrap64 ((Go.bits .and .i64 (wrap64 ((bt126.1 : Int) / 4503599627370496)) 2047) - 1023)))) + 53)) + 1023))) * 4503599627370496)) : Int).toNat)).getD 0)) else (none)) else (if (FloatKind.f64.format.mul 4607182418800017408 ((Go.bits .or .u64 (Go.bits .andNot .u64 (bt126.1 : Int) 9218868437227405312) (IntKind.u64.wrap ((IntKind.u64.wrap (wrap64 ((wrap64 ((wrap64 (a1 + bt126.2)) + (wrap64 ((Go.bits .and .i64 (wrap64 ((bt126.1 : Int) / 4503599627370496)) 2047) - 1023)))) + 1023))) * 4503599627370496)) : Int).toNat)).isSome = true then (some ((FloatKind.f64.format.mul 4607182418800017408 ((Go.bits .or .u64 (Go.bits .andNot .u64 (bt126.1 : Int) 9218868437227405312) (IntKind.u64.wrap ((IntKind.u64.wrap (wrap64 ((wrap64 ((wrap64 (a1 + bt126.2)) + (wrap64 ((Go.bits .and .i64 (wrap64 ((bt126.1 : Int) / 4503599627370496)) 2047) - 1023)))) + 1023))) * 4503599627370496)) : Int).toNat)).getD 0)) else (none))))))))))) = some r := h
  clear h
  by_cases c3 : (FloatKind.f64.format.order a0 0 == some .eq) = true
  · rw [if_pos c3] at H
    have c3b0 : (FloatKind.f64.format.order a0 0 == some .eq) = true := c3
    clear c3
    obtain rfl := Option.some.inj H
    go_enter Tryd.func63, Tryd.ntmps63
    go_wp2
    go_ret
    exact ⟨by first | rfl | (simp; done) | (simp [*]; done), by repeat (first | exact Drawn0.refl _ | apply Drawn0.step)⟩
  · rw [if_neg c3] at H
    have c3b0 : (FloatKind.f64.format.order a0 0 == some .eq) = false := by simpa using c3
    clear c3
    replace H := Option.bind_eq_some_iff.mp H
    obtain ⟨t124, A40, H⟩ := H
    replace H : (if t124 = true then (some a0) else ((math_IsNaN.f a0).bind fun t125 => (if t125 = true then (some a0) else ((math_normalize.f a0).bind fun bt126 => (if (wrap64 ((wrap64 (a1 + bt126.2)) + (wrap64 ((Go.bits .and .i64 (wrap64 ((bt126.1 : Int) / 4503599627370496)) 2047) - 1023)))) < (-1075) then ((math_Copysign.f 0 bt126.1).bind fun t128 => (some t128)) else (if (wrap64 ((wrap64 (a1 + bt126.2)) + (wrap64 ((Go.bits .and .i64 (wrap64 ((bt126.1 : Int) / 4503599627370496)) 2047) - 1023)))) > 1023 then (if (FloatKind.f64.format.order bt126.1 0 == some .lt) = true then ((math_Inf.f (-1)).bind fun t129 => (some t129)) else ((math_Inf.f 1).bind fun t130 => (some t130))) else (if (wrap64 ((wrap64 (a1 + bt126.2)) + (wrap64 ((Go.bits .and .i64 (wrap64 ((bt126.1 : Int) / 4503599627370496)) 2047) - 1023)))) < (-1022) then (if (FloatKind.f64.format.mul 4368491638549381120 ((Go.bits .or .u64 (Go.bits .andNot .u64 (bt126.1 : Int) 9218868437227405312) (IntKind.u64.wrap ((IntKind.u64.wrap (wrap64 ((wrap64 ((wrap64 ((wrap64 (a1 + bt126.2)) + (wrap64 ((Go.bits .and .i64 (wrap64 ((bt126.1 : Int) / 4503599627370496)) 2047) - 1023)))) + 53)) + 1023))) * 4503599627370496)) : Int).toNat)).isSome = true then (some ((FloatKind.f64.format.mul 4368491638549381120 ((Go.bits .or .u64 (Go.bits .andNot .u64 (bt126.1 : Int) 9218868437227405312) (IntKind.u64.wrap ((IntKind.u64.wrap (wrap64 ((wrap64 ((wrap64 ((wrap64 (a1 + bt126.2)) + (wrap64 ((Go.bits .and .i64 (wrap64 ((bt126.1 : Int) / 4503599627370496)) 2047) - 1023)))) + 53)) + 1023))) * 4503599627370496)) : Int).toNat)).getD 0)) else (none)) else (if (FloatKind.f64.format.mul 4607182418800017408 ((Go.bits .or .u64 (Go.bits .andNot .u64 (bt126.1 : Int) 9218868437227405312) (IntKind.u64.wrap ((IntKind.u64.wrap (wrap64 ((wrap64 ((wrap64 (a1 + bt126.2)) + (wrap64 ((Go.bits .and .i64 (wrap64 ((bt126.1 : Int) / 4503599627370496)) 2047) - 1023)))) + 1023))) * 4503599627370496)) : Int).toNat)).isSome = true then (some ((FloatKind.f64.format.mul 4607182418800017408 ((Go.bits .or .u64 (Go.bits .andNot .u64 (bt126.1 : Int) 9218868437227405312) (IntKind.u64.wrap ((IntKind.u64.wrap (wrap64 ((wrap64 ((wrap64 (a1 + bt126.2)) + (wrap64 ((Go.bits .and .i64 (wrap64 ((bt126.1 : Int) / 4503599627370496)) 2047) - 1023)))) + 1023))) * 4503599627370496)) : Int).toNat)).getD 0)) else (none))))))))) = some r := H
    have A4 := Aside0.mk A40
    clear A40
    by_cases c5 : t124 = true
    · subst c5
      have H1 : (some a0) = some r := by rw [if_pos rfl] at H; exact H
      clear H
      have H := H1
      clear H1
      obtain rfl := Option.some.inj H
      go_enter Tryd.func63, Tryd.ntmps63
      go_wp2_with (first | ((with_reducible refine gate_callee (f := 44) rfl ?_); refine goesL_ (some 14) rfl rfl Tryd.func44 (by kernel_rfl) rfl #[.float .f64 a0, .int .i64 0] rfl (by (try simp only [List.map_toArray, List.map_cons, List.map_nil]); first | done | rfl | (simp only [List.length_drop, List.length_take]; rfl)) ?_; (with_reducible refine (math_IsInf.calls a0 0 true _ A4.out).mono ?_); rintro e w' ⟨rfl, ⟨nd, rfl⟩⟩; refine ⟨_, rfl, ?_⟩))
      go_ret
      exact ⟨by first | rfl | (simp; done) | (simp [*]; done), by repeat (first | exact Drawn0.refl _ | apply Drawn0.step)⟩
    · replace c5 := Bool.eq_false_iff.mpr c5
      subst c5
      have H1 : ((math_IsNaN.f a0).bind fun t125 => (if t125 = true then (some a0) else ((math_normalize.f a0).bind fun bt126 => (if (wrap64 ((wrap64 (a1 + bt126.2)) + (wrap64 ((Go.bits .and .i64 (wrap64 ((bt126.1 : Int) / 4503599627370496)) 2047) - 1023)))) < (-1075) then ((math_Copysign.f 0 bt126.1).bind fun t128 => (some t128)) else (if (wrap64 ((wrap64 (a1 + bt126.2)) + (wrap64 ((Go.bits .and .i64 (wrap64 ((bt126.1 : Int) / 4503599627370496)) 2047) - 1023)))) > 1023 then (if (FloatKind.f64.format.order bt126.1 0 == some .lt) = true then ((math_Inf.f (-1)).bind fun t129 => (some t129)) else ((math_Inf.f 1).bind fun t130 => (some t130))) else (if (wrap64 ((wrap64 (a1 + bt126.2)) + (wrap64 ((Go.bits .and .i64 (wrap64 ((bt126.1 : Int) / 4503599627370496)) 2047) - 1023)))) < (-1022) then (if (FloatKind.f64.format.mul 4368491638549381120 ((Go.bits .or .u64 (Go.bits .andNot .u64 (bt126.1 : Int) 9218868437227405312) (IntKind.u64.wrap ((IntKind.u64.wrap (wrap64 ((wrap64 ((wrap64 ((wrap64 (a1 + bt126.2)) + (wrap64 ((Go.bits .and .i64 (wrap64 ((bt126.1 : Int) / 4503599627370496)) 2047) - 1023)))) + 53)) + 1023))) * 4503599627370496)) : Int).toNat)).isSome = true then (some ((FloatKind.f64.format.mul 4368491638549381120 ((Go.bits .or .u64 (Go.bits .andNot .u64 (bt126.1 : Int) 9218868437227405312) (IntKind.u64.wrap ((IntKind.u64.wrap (wrap64 ((wrap64 ((wrap64 ((wrap64 (a1 + bt126.2)) + (wrap64 ((Go.bits .and .i64 (wrap64 ((bt126.1 : Int) / 4503599627370496)) 2047) - 1023)))) + 53)) + 1023))) * 4503599627370496)) : Int).toNat)).getD 0)) else (none)) else (if (FloatKind.f64.format.mul 4607182418800017408 ((Go.bits .or .u64 (Go.bits .andNot .u64 (bt126.1 : Int) 9218868437227405312) (IntKind.u64.wrap ((IntKind.u64.wrap (wrap64 ((wrap64 ((wrap64 (a1 + bt126.2)) + (wrap64 ((Go.bits .and .i64 (wrap64 ((bt126.1 : Int) / 4503599627370496)) 2047) - 1023)))) + 1023))) * 4503599627370496)) : Int).toNat)).isSome = true then (some ((FloatKind.f64.format.mul 4607182418800017408 ((Go.bits .or .u64 (Go.bits .andNot .u64 (bt126.1 : Int) 9218868437227405312) (IntKind.u64.wrap ((IntKind.u64.wrap (wrap64 ((wrap64 ((wrap64 (a1 + bt126.2)) + (wrap64 ((Go.bits .and .i64 (wrap64 ((bt126.1 : Int) / 4503599627370496)) 2047) - 1023)))) + 1023))) * 4503599627370496)) : Int).toNat)).getD 0)) else (none)))))))) = some r := by rw [if_neg (show ¬ (false = true) by decide)] at H; exact H
      clear H
      have H := H1
      clear H1
      replace H := Option.bind_eq_some_iff.mp H
      obtain ⟨t125, A60, H⟩ := H
      replace H : (if t125 = true then (some a0) else ((math_normalize.f a0).bind fun bt126 => (if (wrap64 ((wrap64 (a1 + bt126.2)) + (wrap64 ((Go.bits .and .i64 (wrap64 ((bt126.1 : Int) / 4503599627370496)) 2047) - 1023)))) < (-1075) then ((math_Copysign.f 0 bt126.1).bind fun t128 => (some t128)) else (if (wrap64 ((wrap64 (a1 + bt126.2)) + (wrap64 ((Go.bits .and .i64 (wrap64 ((bt126.1 : Int) / 4503599627370496)) 2047) - 1023)))) > 1023 then (if (FloatKind.f64.format.order bt126.1 0 == some .lt) = true then ((math_Inf.f (-1)).bind fun t129 => (some t129)) else ((math_Inf.f 1).bind fun t130 => (some t130))) else (if (wrap64 ((wrap64 (a1 + bt126.2)) + (wrap64 ((Go.bits .and .i64 (wrap64 ((bt126.1 : Int) / 4503599627370496)) 2047) - 1023)))) < (-1022) then (if (FloatKind.f64.format.mul 4368491638549381120 ((Go.bits .or .u64 (Go.bits .andNot .u64 (bt126.1 : Int) 9218868437227405312) (IntKind.u64.wrap ((IntKind.u64.wrap (wrap64 ((wrap64 ((wrap64 ((wrap64 (a1 + bt126.2)) + (wrap64 ((Go.bits .and .i64 (wrap64 ((bt126.1 : Int) / 4503599627370496)) 2047) - 1023)))) + 53)) + 1023))) * 4503599627370496)) : Int).toNat)).isSome = true then (some ((FloatKind.f64.format.mul 4368491638549381120 ((Go.bits .or .u64 (Go.bits .andNot .u64 (bt126.1 : Int) 9218868437227405312) (IntKind.u64.wrap ((IntKind.u64.wrap (wrap64 ((wrap64 ((wrap64 ((wrap64 (a1 + bt126.2)) + (wrap64 ((Go.bits .and .i64 (wrap64 ((bt126.1 : Int) / 4503599627370496)) 2047) - 1023)))) + 53)) + 1023))) * 4503599627370496)) : Int).toNat)).getD 0)) else (none)) else (if (FloatKind.f64.format.mul 4607182418800017408 ((Go.bits .or .u64 (Go.bits .andNot .u64 (bt126.1 : Int) 9218868437227405312) (IntKind.u64.wrap ((IntKind.u64.wrap (wrap64 ((wrap64 ((wrap64 (a1 + bt126.2)) + (wrap64 ((Go.bits .and .i64 (wrap64 ((bt126.1 : Int) / 4503599627370496)) 2047) - 1023)))) + 1023))) * 4503599627370496)) : Int).toNat)).isSome = true then (some ((FloatKind.f64.format.mul 4607182418800017408 ((Go.bits .or .u64 (Go.bits .andNot .u64 (bt126.1 : Int) 9218868437227405312) (IntKind.u64.wrap ((IntKind.u64.wrap (wrap64 ((wrap64 ((wrap64 (a1 + bt126.2)) + (wrap64 ((Go.bits .and .i64 (wrap64 ((bt126.1 : Int) / 4503599627370496)) 2047) - 1023)))) + 1023))) * 4503599627370496)) : Int).toNat)).getD 0)) else (none))))))) = some r := H
      have A6 := Aside0.mk A60
      clear A60
      by_cases c7 : t125 = true
      · subst c7
        have H1 : (some a0) = some r := by rw [if_pos rfl] at H; exact H
        clear H
        have H := H1
        clear H1
        obtain rfl := Option.some.inj H
        go_enter Tryd.func63, Tryd.ntmps63
        go_wp2_with (first | ((with_reducible refine gate_callee (f := 44) rfl ?_); refine goesL_ (some 14) rfl rfl Tryd.func44 (by kernel_rfl) rfl #[.float .f64 a0, .int .i64 0] rfl (by (try simp only [List.map_toArray, List.map_cons, List.map_nil]); first | done | rfl | (simp only [List.length_drop, List.length_take]; rfl)) ?_; (with_reducible refine (math_IsInf.calls a0 0 false _ A4.out).mono ?_); rintro e w' ⟨rfl, ⟨nd, rfl⟩⟩; refine ⟨_, rfl, ?_⟩) | (go_at_call 67; (with_reducible refine (math_IsNaN.calls a0 true _ A6.out).mono ?_); rintro e w' ⟨rfl, ⟨nd, rfl⟩⟩))
        go_ret
        exact ⟨by first | rfl | (simp; done) | (simp [*]; done), by repeat (first | exact Drawn0.refl _ | apply Drawn0.step)⟩
      · replace c7 := Bool.eq_false_iff.mpr c7
        subst c7
        have H1 : ((math_normalize.f a0).bind fun bt126 => (if (wrap64 ((wrap64 (a1 + bt126.2)) + (wrap64 ((Go.bits .and .i64 (wrap64 ((bt126.1 : Int) / 4503599627370496)) 2047) - 1023)))) < (-1075) then ((math_Copysign.f 0 bt126.1).bind fun t128 => (some t128)) else (if (wrap64 ((wrap64 (a1 + bt126.2)) + (wrap64 ((Go.bits .and .i64 (wrap64 ((bt126.1 : Int) / 4503599627370496)) 2047) - 1023)))) > 1023 then (if (FloatKind.f64.format.order bt126.1 0 == some .lt) = true then ((math_Inf.f (-1)).bind fun t129 => (some t129)) else ((math_Inf.f 1).bind fun t130 => (some t130))) else (if (wrap64 ((wrap64 (a1 + bt126.2)) + (wrap64 ((Go.bits .and .i64 (wrap64 ((bt126.1 : Int) / 4503599627370496)) 2047) - 1023)))) < (-1022) then (if (FloatKind.f64.format.mul 4368491638549381120 ((Go.bits .or .u64 (Go.bits .andNot .u64 (bt126.1 : Int) 9218868437227405312) (IntKind.u64.wrap ((IntKind.u64.wrap (wrap64 ((wrap64 ((wrap64 ((wrap64 (a1 + bt126.2)) + (wrap64 ((Go.bits .and .i64 (wrap64 ((bt126.1 : Int) / 4503599627370496)) 2047) - 1023)))) + 53)) + 1023))) * 4503599627370496)) : Int).toNat)).isSome = true then (some ((FloatKind.f64.format.mul 4368491638549381120 ((Go.bits .or .u64 (Go.bits .andNot .u64 (bt126.1 : Int) 9218868437227405312) (IntKind.u64.wrap ((IntKind.u64.wrap (wrap64 ((wrap64 ((wrap64 ((wrap64 (a1 + bt126.2)) + (wrap64 ((Go.bits .and .i64 (wrap64 ((bt126.1 : Int) / 4503599627370496)) 2047) - 1023)))) + 53)) + 1023))) * 4503599627370496)) : Int).toNat)).getD 0)) else (none)) else (if (FloatKind.f64.format.mul 4607182418800017408 ((Go.bits .or .u64 (Go.bits .andNot .u64 (bt126.1 : Int) 9218868437227405312) (IntKind.u64.wrap ((IntKind.u64.wrap (wrap64 ((wrap64 ((wrap64 (a1 + bt126.2)) + (wrap64 ((Go.bits .and .i64 (wrap64 ((bt126.1 : Int) / 4503599627370496)) 2047) - 1023)))) + 1023))) * 4503599627370496)) : Int).toNat)).isSome = true then (some ((FloatKind.f64.format.mul 4607182418800017408 ((Go.bits .or .u64 (Go.bits .andNot .u64 (bt126.1 : Int) 9218868437227405312) (IntKind.u64.wrap ((IntKind.u64.wrap (wrap64 ((wrap64 ((wrap64 (a1 + bt126.2)) + (wrap64 ((Go.bits .and .i64 (wrap64 ((bt126.1 : Int) / 4503599627370496)) 2047) - 1023)))) + 1023))) * 4503599627370496)) : Int).toNat)).getD 0)) else (none)))))) = some r := by rw [if_neg (show ¬ (false = true) by decide)] at H; exact H
        clear H
        have H := H1
        clear H1
        replace H := Option.bind_eq_some_iff.mp H
        obtain ⟨⟨t126, t127⟩, A80, H⟩ := H
        replace H : (if (wrap64 ((wrap64 (a1 + t127)) + (wrap64 ((Go.bits .and .i64 (wrap64 ((t126 : Int) / 4503599627370496)) 2047) - 1023)))) < (-1075) then ((math_Copysign.f 0 t126).bind fun t128 => (some t128)) else (if (wrap64 ((wrap64 (a1 + t127)) + (wrap64 ((Go.bits .and .i64 (wrap64 ((t126 : Int) / 4503599627370496)) 2047) - 1023)))) > 1023 then (if (FloatKind.f64.format.order t126 0 == some .lt) = true then ((math_Inf.f (-1)).bind fun t129 => (some t129)) else ((math_Inf.f 1).bind fun t130 => (some t130))) else (if (wrap64 ((wrap64 (a1 + t127)) + (wrap64 ((Go.bits .and .i64 (wrap64 ((t126 : Int) / 4503599627370496)) 2047) - 1023)))) < (-1022) then (if (FloatKind.f64.format.mul 4368491638549381120 ((Go.bits .or .u64 (Go.bits .andNot .u64 (t126 : Int) 9218868437227405312) (IntKind.u64.wrap ((IntKind.u64.wrap (wrap64 ((wrap64 ((wrap64 ((wrap64 (a1 + t127)) + (wrap64 ((Go.bits .and .i64 (wrap64 ((t126 : Int) / 4503599627370496)) 2047) - 1023)))) + 53)) + 1023))) * 4503599627370496)) : Int).toNat)).isSome = true then (some ((FloatKind.f64.format.mul 4368491638549381120 ((Go.bits .or .u64 (Go.bits .andNot .u64 (t126 : Int) 9218868437227405312) (IntKind.u64.wrap ((IntKind.u64.wrap (wrap64 ((wrap64 ((wrap64 ((wrap64 (a1 + t127)) + (wrap64 ((Go.bits .and .i64 (wrap64 ((t126 : Int) / 4503599627370496)) 2047) - 1023)))) + 53)) + 1023))) * 4503599627370496)) : Int).toNat)).getD 0)) else (none)) else (if (FloatKind.f64.format.mul 4607182418800017408 ((Go.bits .or .u64 (Go.bits .andNot .u64 (t126 : Int) 9218868437227405312) (IntKind.u64.wrap ((IntKind.u64.wrap (wrap64 ((wrap64 ((wrap64 (a1 + t127)) + (wrap64 ((Go.bits .and .i64 (wrap64 ((t126 : Int) / 4503599627370496)) 2047) - 1023)))) + 1023))) * 4503599627370496)) : Int).toNat)).isSome = true then (some ((FloatKind.f64.format.mul 4607182418800017408 ((Go.bits .or .u64 (Go.bits .andNot .u64 (t126 : Int) 9218868437227405312) (IntKind.u64.wrap ((IntKind.u64.wrap (wrap64 ((wrap64 ((wrap64 (a1 + t127)) + (wrap64 ((Go.bits .and .i64 (wrap64 ((t126 : Int) / 4503599627370496)) 2047) - 1023)))) + 1023))) * 4503599627370496)) : Int).toNat)).getD 0)) else (none))))) = some r := H
        have A8 := Aside0.mk A80
        clear A80
        by_cases c9 : (wrap64 ((wrap64 (a1 + t127)) + (wrap64 ((Go.bits .and .i64 (wrap64 ((t126 : Int) / 4503599627370496)) 2047) - 1023)))) < (-1075)
        · rw [if_pos c9] at H
          have c9b0 : decide ((wrap64 ((wrap64 (a1 + t127)) + (wrap64 ((Go.bits .and .i64 (wrap64 ((t126 : Int) / 4503599627370496)) 2047) - 1023)))) < (-1075)) = true := decide_eq_true c9
          clear c9
          replace H := Option.bind_eq_some_iff.mp H
          obtain ⟨t128, A100, H⟩ := H
          replace H : (some t128) = some r := H
          have A10 := Aside0.mk A100
          clear A100
          obtain rfl := Option.some.inj H
          go_enter Tryd.func63, Tryd.ntmps63
          go_wp2_with (first | ((with_reducible refine gate_callee (f := 44) rfl ?_); refine goesL_ (some 14) rfl rfl Tryd.func44 (by kernel_rfl) rfl #[.float .f64 a0, .int .i64 0] rfl (by (try simp only [List.map_toArray, List.map_cons, List.map_nil]); first | done | rfl | (simp only [List.length_drop, List.length_take]; rfl)) ?_; (with_reducible refine (math_IsInf.calls a0 0 false _ A4.out).mono ?_); rintro e w' ⟨rfl, ⟨nd, rfl⟩⟩; refine ⟨_, rfl, ?_⟩) | (go_at_call 67; (with_reducible refine (math_IsNaN.calls a0 false _ A6.out).mono ?_); rintro e w' ⟨rfl, ⟨nd, rfl⟩⟩) | ((with_reducible refine gate_callee (f := 68) rfl ?_); refine goesL_ (some 22) rfl rfl Tryd.func68 (by kernel_rfl) rfl #[.float .f64 a0] rfl (by (try simp only [List.map_toArray, List.map_cons, List.map_nil]); first | done | rfl | (simp only [List.length_drop, List.length_take]; rfl)) ?_; (with_reducible refine (math_normalize.calls a0 t126 t127 _ A8.out).mono ?_); rintro e w' ⟨rfl, ⟨nd, rfl⟩⟩; refine ⟨_, rfl, ?_⟩) | ((with_reducible refine gate_callee (f := 69) rfl ?_); refine goesL_ (some 40) rfl rfl Tryd.func69 (by kernel_rfl) rfl #[.float .f64 0, .float .f64 t126] rfl (by (try simp only [List.map_toArray, List.map_cons, List.map_nil]); first | done | rfl | (simp only [List.length_drop, List.length_take]; rfl)) ?_; (with_reducible refine (math_Copysign.calls 0 t126 t128 _ A10.out).mono ?_); rintro e w' ⟨rfl, ⟨nd, rfl⟩⟩; refine ⟨_, rfl, ?_⟩))
          go_ret
          exact ⟨by first | rfl | (simp; done) | (simp [*]; done), by repeat (first | exact Drawn0.refl _ | apply Drawn0.step)⟩
        · rw [if_neg c9] at H
          have c9b0 : decide ((wrap64 ((wrap64 (a1 + t127)) + (wrap64 ((Go.bits .and .i64 (wrap64 ((t126 : Int) / 4503599627370496)) 2047) - 1023)))) < (-1075)) = false := decide_eq_false c9
          clear c9
          by_cases c11 : (wrap64 ((wrap64 (a1 + t127)) + (wrap64 ((Go.bits .and .i64 (wrap64 ((t126 : Int) / 4503599627370496)) 2047) - 1023)))) > 1023
          · rw [if_pos c11] at H
            have c11b0 : decide (1023 < (wrap64 ((wrap64 (a1 + t127)) + (wrap64 ((Go.bits .and .i64 (wrap64 ((t126 : Int) / 4503599627370496)) 2047) - 1023))))) = true := decide_eq_true c11
            clear c11
            by_cases c12 : (FloatKind.f64.format.order t126 0 == some .lt) = true
            · rw [if_pos c12] at H
              have c12b0 : (FloatKind.f64.format.order t126 0 == some .lt) = true := c12
              clear c12
              replace H := Option.bind_eq_some_iff.mp H
              obtain ⟨t129, A130, H⟩ := H
              replace H : (some t129) = some r := H
              have A13 := Aside0.mk A130
              clear A130
              obtain rfl := Option.some.inj H
              go_enter Tryd.func63, Tryd.ntmps63
              go_wp2_with (first | ((with_reducible refine gate_callee (f := 44) rfl ?_); refine goesL_ (some 14) rfl rfl Tryd.func44 (by kernel_rfl) rfl #[.float .f64 a0, .int .i64 0] rfl (by (try simp only [List.map_toArray, List.map_cons, List.map_nil]); first | done | rfl | (simp only [List.length_drop, List.length_take]; rfl)) ?_; (with_reducible refine (math_IsInf.calls a0 0 false _ A4.out).mono ?_); rintro e w' ⟨rfl, ⟨nd, rfl⟩⟩; refine ⟨_, rfl, ?_⟩) | (go_at_call 67; (with_reducible refine (math_IsNaN.calls a0 false _ A6.out).mono ?_); rintro e w' ⟨rfl, ⟨nd, rfl⟩⟩) | ((with_reducible refine gate_callee (f := 68) rfl ?_); refine goesL_ (some 22) rfl rfl Tryd.func68 (by kernel_rfl) rfl #[.float .f64 a0] rfl (by (try simp only [List.map_toArray, List.map_cons, List.map_nil]); first | done | rfl | (simp only [List.length_drop, List.length_take]; rfl)) ?_; (with_reducible refine (math_normalize.calls a0 t126 t127 _ A8.out).mono ?_); rintro e w' ⟨rfl, ⟨nd, rfl⟩⟩; refine ⟨_, rfl, ?_⟩) | ((with_reducible refine gate_callee (f := 70) rfl ?_); refine goesL_ (some 45) rfl rfl Tryd.func70 (by kernel_rfl) rfl #[.int .i64 (-1)] rfl (by (try simp only [List.map_toArray, List.map_cons, List.map_nil]); first | done | rfl | (simp only [List.length_drop, List.length_take]; rfl)) ?_; (with_reducible refine (math_Inf.calls (-1) t129 _ A13.out).mono ?_); rintro e w' ⟨rfl, ⟨nd, rfl⟩⟩; refine ⟨_, rfl, ?_⟩))
              go_ret
              exact ⟨by first | rfl | (simp; done) | (simp [*]; done), by repeat (first | exact Drawn0.refl _ | apply Drawn0.step)⟩
            · rw [if_neg c12] at H
              have c12b0 : (FloatKind.f64.format.order t126 0 == some .lt) = false := by simpa using c12
              clear c12
              replace H := Option.bind_eq_some_iff.mp H
              obtain ⟨t130, A140, H⟩ := H
              replace H : (some t130) = some r := H
              have A14 := Aside0.mk A140
              clear A140
              obtain rfl := Option.some.inj H
              go_enter Tryd.func63, Tryd.ntmps63
              go_wp2_with (first | ((with_reducible refine gate_callee (f := 44) rfl ?_); refine goesL_ (some 14) rfl rfl Tryd.func44 (by kernel_rfl) rfl #[.float .f64 a0, .int .i64 0] rfl (by (try simp only [List.map_toArray, List.map_cons, List.map_nil]); first | done | rfl | (simp only [List.length_drop, List.length_take]; rfl)) ?_; (with_reducible refine (math_IsInf.calls a0 0 false _ A4.out).mono ?_); rintro e w' ⟨rfl, ⟨nd, rfl⟩⟩; refine ⟨_, rfl, ?_⟩) | (go_at_call 67; (with_reducible refine (math_IsNaN.calls a0 false _ A6.out).mono ?_); rintro e w' ⟨rfl, ⟨nd, rfl⟩⟩) | ((with_reducible refine gate_callee (f := 68) rfl ?_); refine goesL_ (some 22) rfl rfl Tryd.func68 (by kernel_rfl) rfl #[.float .f64 a0] rfl (by (try simp only [List.map_toArray, List.map_cons, List.map_nil]); first | done | rfl | (simp only [List.length_drop, List.length_take]; rfl)) ?_; (with_reducible refine (math_normalize.calls a0 t126 t127 _ A8.out).mono ?_); rintro e w' ⟨rfl, ⟨nd, rfl⟩⟩; refine ⟨_, rfl, ?_⟩) | ((with_reducible refine gate_callee (f := 70) rfl ?_); refine goesL_ (some 46) rfl rfl Tryd.func70 (by kernel_rfl) rfl #[.int .i64 1] rfl (by (try simp only [List.map_toArray, List.map_cons, List.map_nil]); first | done | rfl | (simp only [List.length_drop, List.length_take]; rfl)) ?_; (with_reducible refine (math_Inf.calls 1 t130 _ A14.out).mono ?_); rintro e w' ⟨rfl, ⟨nd, rfl⟩⟩; refine ⟨_, rfl, ?_⟩))
              go_ret
              exact ⟨by first | rfl | (simp; done) | (simp [*]; done), by repeat (first | exact Drawn0.refl _ | apply Drawn0.step)⟩
          · rw [if_neg c11] at H
            have c11b0 : decide (1023 < (wrap64 ((wrap64 (a1 + t127)) + (wrap64 ((Go.bits .and .i64 (wrap64 ((t126 : Int) / 4503599627370496)) 2047) - 1023))))) = false := decide_eq_false c11
            clear c11
            by_cases c15 : (wrap64 ((wrap64 (a1 + t127)) + (wrap64 ((Go.bits .and .i64 (wrap64 ((t126 : Int) / 4503599627370496)) 2047) - 1023)))) < (-1022)
            · rw [if_pos c15] at H
              have c15b0 : decide ((wrap64 ((wrap64 (a1 + t127)) + (wrap64 ((Go.bits .and .i64 (wrap64 ((t126 : Int) / 4503599627370496)) 2047) - 1023)))) < (-1022)) = true := decide_eq_true c15
              clear c15
              by_cases c16 : (FloatKind.f64.format.mul 4368491638549381120 ((Go.bits .or .u64 (Go.bits .andNot .u64 (t126 : Int) 9218868437227405312) (IntKind.u64.wrap ((IntKind.u64.wrap (wrap64 ((wrap64 ((wrap64 ((wrap64 (a1 + t127)) + (wrap64 ((Go.bits .and .i64 (wrap64 ((t126 : Int) / 4503599627370496)) 2047) - 1023)))) + 53)) + 1023))) * 4503599627370496)) : Int).toNat)).isSome = true
              · rw [if_pos c16] at H
                have c16b0 : (FloatKind.f64.format.mul 4368491638549381120 ((Go.bits .or .u64 (Go.bits .andNot .u64 (t126 : Int) 9218868437227405312) (IntKind.u64.wrap ((IntKind.u64.wrap (wrap64 ((wrap64 ((wrap64 ((wrap64 (a1 + t127)) + (wrap64 ((Go.bits .and .i64 (wrap64 ((t126 : Int) / 4503599627370496)) 2047) - 1023)))) + 53)) + 1023))) * 4503599627370496)) : Int).toNat)).isSome = true := c16
                clear c16
                obtain rfl := Option.some.inj H
                go_enter Tryd.func63, Tryd.ntmps63
                go_wp2_with (first | ((with_reducible refine gate_callee (f := 44) rfl ?_); refine goesL_ (some 14) rfl rfl Tryd.func44 (by kernel_rfl) rfl #[.float .f64 a0, .int .i64 0] rfl (by (try simp only [List.map_toArray, List.map_cons, List.map_nil]); first | done | rfl | (simp only [List.length_drop, List.length_take]; rfl)) ?_; (with_reducible refine (math_IsInf.calls a0 0 false _ A4.out).mono ?_); rintro e w' ⟨rfl, ⟨nd, rfl⟩⟩; refine ⟨_, rfl, ?_⟩) | (go_at_call 67; (with_reducible refine (math_IsNaN.calls a0 false _ A6.out).mono ?_); rintro e w' ⟨rfl, ⟨nd, rfl⟩⟩) | ((with_reducible refine gate_callee (f := 68) rfl ?_); refine goesL_ (some 22) rfl rfl Tryd.func68 (by kernel_rfl) rfl #[.float .f64 a0] rfl (by (try simp only [List.map_toArray, List.map_cons, List.map_nil]); first | done | rfl | (simp only [List.length_drop, List.length_take]; rfl)) ?_; (with_reducible refine (math_normalize.calls a0 t126 t127 _ A8.out).mono ?_); rintro e w' ⟨rfl, ⟨nd, rfl⟩⟩; refine ⟨_, rfl, ?_⟩))
                go_ret
                exact ⟨by first | rfl | (simp; done) | (simp [*]; done), by repeat (first | exact Drawn0.refl _ | apply Drawn0.step)⟩
              · rw [if_neg c16] at H
                exact absurd H (by simp)
            · rw [if_neg c15] at H
              have c15b0 : decide ((wrap64 ((wrap64 (a1 + t127)) + (wrap64 ((Go.bits .and .i64 (wrap64 ((t126 : Int) / 4503599627370496)) 2047) - 1023)))) < (-1022)) = false := decide_eq_false c15
              clear c15
              by_cases c17 : (FloatKind.f64.format.mul 4607182418800017408 ((Go.bits .or .u64 (Go.bits .andNot .u64 (t126 : Int) 9218868437227405312) (IntKind.u64.wrap ((IntKind.u64.wrap (wrap64 ((wrap64 ((wrap64 (a1 + t127)) + (wrap64 ((Go.bits .and .i64 (wrap64 ((t126 : Int) / 4503599627370496)) 2047) - 1023)))) + 1023))) * 4503599627370496)) : Int).toNat)).isSome = true
              · rw [if_pos c17] at H
                have c17b0 : (FloatKind.f64.format.mul 4607182418800017408 ((Go.bits .or .u64 (Go.bits .andNot .u64 (t126 : Int) 9218868437227405312) (IntKind.u64.wrap ((IntKind.u64.wrap (wrap64 ((wrap64 ((wrap64 (a1 + t127)) + (wrap64 ((Go.bits .and .i64 (wrap64 ((t126 : Int) / 4503599627370496)) 2047) - 1023)))) + 1023))) * 4503599627370496)) : Int).toNat)).isSome = true := c17
                clear c17
                obtain rfl := Option.some.inj H
                go_enter Tryd.func63, Tryd.ntmps63
                go_wp2_with (first | ((with_reducible refine gate_callee (f := 44) rfl ?_); refine goesL_ (some 14) rfl rfl Tryd.func44 (by kernel_rfl) rfl #[.float .f64 a0, .int .i64 0] rfl (by (try simp only [List.map_toArray, List.map_cons, List.map_nil]); first | done | rfl | (simp only [List.length_drop, List.length_take]; rfl)) ?_; (with_reducible refine (math_IsInf.calls a0 0 false _ A4.out).mono ?_); rintro e w' ⟨rfl, ⟨nd, rfl⟩⟩; refine ⟨_, rfl, ?_⟩) | (go_at_call 67; (with_reducible refine (math_IsNaN.calls a0 false _ A6.out).mono ?_); rintro e w' ⟨rfl, ⟨nd, rfl⟩⟩) | ((with_reducible refine gate_callee (f := 68) rfl ?_); refine goesL_ (some 22) rfl rfl Tryd.func68 (by kernel_rfl) rfl #[.float .f64 a0] rfl (by (try simp only [List.map_toArray, List.map_cons, List.map_nil]); first | done | rfl | (simp only [List.length_drop, List.length_take]; rfl)) ?_; (with_reducible refine (math_normalize.calls a0 t126 t127 _ A8.out).mono ?_); rintro e w' ⟨rfl, ⟨nd, rfl⟩⟩; refine ⟨_, rfl, ?_⟩))
                go_ret
                exact ⟨by first | rfl | (simp; done) | (simp [*]; done), by repeat (first | exact Drawn0.refl _ | apply Drawn0.step)⟩
              · rw [if_neg c17] at H
                exact absurd H (by simp)

/-! ### math_Ldexp: function 33 -/
def math_Ldexp.f (a0 : Nat) (a1 : Int) : Option (Nat) := (math_ldexp.f a0 a1).bind fun t131 => (some t131)
set_option maxHeartbeats 3000000 in
set_option maxRecDepth 100000 in
theorem math_Ldexp.calls (a0 : Nat) (a1 : Int) (r : Nat) (w : World) (h : math_Ldexp.f a0 a1 = some r) :
    Calls Tryd.prog 33 #[.float .f64 a0, .int .i64 a1] w fun e w' => e = .returned (.float .f64 r) ∧ Drawn0 w w' := by
  have H : ((math_ldexp.f a0 a1).bind fun t131 => (some t131)) = some r := h
  clear h
  replace H := Option.bind_eq_some_iff.mp H
  obtain ⟨t131, A30, H⟩ := H
  replace H : (some t131) = some r := H
  have A3 := Aside0.mk A30
  clear A30
  obtain rfl := Option.some.inj H
  go_enter Tryd.func33, Tryd.ntmps33
  go_wp2_with (first | ((with_reducible refine gate_callee (f := 63) rfl ?_); refine goesL_ (some 10) rfl rfl Tryd.func63 (by kernel_rfl) rfl #[.float .f64 a0, .int .i64 a1] rfl (by (try simp only [List.map_toArray, List.map_cons, List.map_nil]); first | done | rfl | (simp only [List.length_drop, List.length_take]; rfl)) ?_; (with_reducible refine (math_ldexp.calls a0 a1 t131 _ A3.out).mono ?_); rintro e w' ⟨rfl, ⟨nd, rfl⟩⟩; refine ⟨_, rfl, ?_⟩))
  go_ret
  exact ⟨by first | rfl | (simp; done) | (simp [*]; done), by repeat (first | exact Drawn0.refl _ | apply Drawn0.step)⟩

/-! ### bits_grown: function 56 -/
def bits_grown.f (a0 : Int) : Option (Nat) := if a0 = 2139095040 then ((math_Ldexp.f 4607182418800017408 128).bind fun t132 => (some t132)) else (if (floatToFloatBits .f32 ((a0 : Int).toNat) .f64).isSome = true then (some ((floatToFloatBits .f32 ((a0 : Int).toNat) .f64).getD 0)) else (none))
set_option maxHeartbeats 3000000 in
set_option maxRecDepth 100000 in
theorem bits_grown.calls (a0 : Int) (r : Nat) (w : World) (h : bits_grown.f a0 = some r) :
    Calls Tryd.prog 56 #[.int .u32 a0] w fun e w' => e = .returned (.float .f64 r) ∧ Drawn0 w w' := by
  have H : (if a0 = 2139095040 then ((math_Ldexp.f 4607182418800017408 128).bind fun t132 => (some t132)) else (if (floatToFloatBits .f32 ((a0 : Int).toNat) .f64).isSome = true then (some ((floatToFloatBits .f32 ((a0 : Int).toNat) .f64).getD 0)) else (none))) = some r := h
  clear h
  by_cases c2 : a0 = 2139095040
  · rw [if_pos c2] at H
    have c2b0 : (a0 == 2139095040) = true := beq_iff_eq.mpr c2
    have c2b1 : (a0 != 2139095040) = false := bne_eq_false_iff_eq.mpr c2
    clear c2
    replace H := Option.bind_eq_some_iff.mp H
    obtain ⟨t132, A30, H⟩ := H
    replace H : (some t132) = some r := H
    have A3 := Aside0.mk A30
    clear A30
    obtain rfl := Option.some.inj H
    go_enter Tryd.func56, Tryd.ntmps56
    go_wp2_with (first | ((with_reducible refine gate_callee (f := 33) rfl ?_); refine goesL_ (some 5) rfl rfl Tryd.func33 (by kernel_rfl) rfl #[.float .f64 4607182418800017408, .int .i64 128] rfl (by (try simp only [List.map_toArray, List.map_cons, List.map_nil]); first | done | rfl | (simp only [List.length_drop, List.length_take]; rfl)) ?_; (with_reducible refine (math_Ldexp.calls 4607182418800017408 128 t132 _ A3.out).mono ?_); rintro e w' ⟨rfl, ⟨nd, rfl⟩⟩; refine ⟨_, rfl, ?_⟩))
    go_ret
    exact ⟨by first | rfl | (simp; done) | (simp [*]; done), by repeat (first | exact Drawn0.refl _ | apply Drawn0.step)⟩
  · rw [if_neg c2] at H
    have c2b0 : (a0 == 2139095040) = false := beq_eq_false_iff_ne.mpr c2
    have c2b1 : (a0 != 2139095040) = true := bne_iff_ne.mpr c2
    by_cases c4 : (floatToFloatBits .f32 ((a0 : Int).toNat) .f64).isSome = true
    · rw [if_pos c4] at H
      have c4b0 : (floatToFloatBits .f32 ((a0 : Int).toNat) .f64).isSome = true := c4
      clear c4
      obtain rfl := Option.some.inj H
      go_enter Tryd.func56, Tryd.ntmps56
      go_wp2
      go_ret
      exact ⟨by first | rfl | (simp; done) | (simp [*]; done), by repeat (first | exact Drawn0.refl _ | apply Drawn0.step)⟩
    · rw [if_neg c4] at H
      exact absurd H (by simp)

end Go.Proofs.YtjkcgelemidapaaDoor.Pr
